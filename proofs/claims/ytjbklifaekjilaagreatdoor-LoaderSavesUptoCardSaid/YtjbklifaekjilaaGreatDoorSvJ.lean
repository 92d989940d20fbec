/- Texts of this proof, what it rests on, merged: part J. -/
import Derived.Test.YtjbklifaekjilaaGreatDoorSvI
section
namespace Go.Am
open Go Go.Proofs
set_option maxRecDepth 100000
set_option linter.unusedVariables false
set_option linter.unusedSimpArgs false
set_option maxHeartbeats 2000000
theorem Amx (g:List (List Int)) (sh:List Bool) (s0:Sr) (v0:Nat) (hg:g.length≤24) (Bj:∀r∈g,r.length≤10000000) (FJ:sh.length=g.length) (hT:TJ g sh Nx s0) (hpa:s0.path=[]) (hhe:s0.held=[]) (hcu:s0.count+JP g s0=g.length)
   (hv:v0<g.length) (hvo:sh.getD v0 false=false) (Qv:s0.sn v0=0):
   Aj Tryz.prog 118 [.ptr 1000000 0,.p (.int .i64 (v0:Nat))]
     [(1000000,.box (s0.bx g sh s0.path s0.path.length)),(1000001,.arr 3 1 (Ag (nI s0.seen))),(1000002,.arr 3 1 (Ag (nI s0.low))),(1000003,.arr 3 1 (Ag (nI s0.at_))),(1000004,.arr 3 1 (Ag (nI s0.path))),(1000005,.arr 3 1 (Ag (nI s0.held))),(1000006,.arr 3 1 (Ag s0.names))]
     fun h r=>Aug g sh s0 v0 h∧r= .BA []:=by
 refine Ak Tryz.func118 rfl Ad6 (by simp[Tryz.f118]) ?_;unfold Sr.bx;simp only[go_sem];refine P7 FB.VU (FB.st g sh) (FI g sh s0 v0) (fun b=>FM g b.s) (FM g s0) ?_ ?_
 · intro n ih;obtain ⟨s,rfl⟩:∃s,s=s0:=⟨s0,rfl⟩;obtain ⟨v,rfl⟩:∃v,v=v0:=⟨v0,rfl⟩;have tj:=hT.SQ (fun w=>w=v);have cu:=hcu;have LU:=hv;have Abs:=hvo;have hvz:=Qv;have hpv:∀p∈s.path,Mf g sh p v:=by rw[hpa];intro p hp;cases hp
   have pl:s.path.length+JP g s≤g.length:=by rw[hpa];have:=Afa g s;simpa using this
   have p7:s.held.length+JP g s≤g.length:=by rw[hhe];have:=Afa g s;simpa using this
   have l1:=tj.l1;have l2:=tj.l2;have AL:=(K3 LU tj.l1 hvz).1;have hI1:FI g sh s v ⟨1,s.enter v,v,0,0⟩:=FI.enter tj cu (fun _ h=>h) (.inl rfl) LU Abs hvz hpv pl p7 0 0;have i1:(0:Int)≤(v:Int)∧(v:Int)<(g.length:Int):=by omega
   have hwc:IntKind.i64.wrap ((s.count:Int)+1)=((s.count+1:Nat):Int):=AZ (by omega);have gn0:(Ag (nI s.seen)).getD v []=[.int .i64 (s.sn v:Nat)]:=by rw[AD (nI s.seen) v (by rw[AQ];omega),B1];rfl
   have gl0:(Ag (nI s.low)).getD v []=[.int .i64 (s.lw v:Nat)]:=by rw[AD (nI s.low) v (by rw[AQ];omega),B1];rfl
   have i1s:(0:Int)≤(v:Int)∧(v:Int)<(s.seen.length:Int):=by omega
   have i1l:(0:Int)≤(v:Int)∧(v:Int)<(s.low.length:Int):=by omega
   have hpb:s.path.length+1≤24∧s.held.length+1≤24:=by have:=(K3 (g:=g) LU l1 hvz).2.2;omega
   simp only[go_sem,hwc];refine AY mixed (p:=[(0,0),(1,0),(2,0),(3,0),(4,0),(5,0),(6,0),(7,0),(8,0),(9,0),(10,0),(11,0),(12,0),(13,0),(14,0),(15,0),(16,0),(17,0),(18,0),(19,4),(20,4),(21,4)]) (by kernel_rfl) (by simp[Av,get]) ?_;simp only[go_sem,hwc,Int.toNat_natCast,i1s,i1l,gn0,gl0];refine BB [(1000000,.box [.p (.sl (AM g)),.p (.sl (Bf sh)),.ref 1000001 0 s.seen.length s.seen.length,.ref 1000002 0 s.low.length s.low.length,.ref 1000003 0 s.at_.length s.at_.length,.ref 1000004 0 s.path.length s.path.length,.ref 1000005 0 s.held.length s.held.length,.p (.int .i64 ((s.count+1:Nat):Int)),.ref 1000006 0 s.names.length s.names.length])] mixed (p:=[(0,0),(1,0),(2,0),(3,0),(4,0),(5,0),(6,0),(9,0),(10,0),(11,0),(12,0),(13,0),(7,1),(14,1),(8,2),(15,2),(16,0),(17,0),(18,4),(19,4),(20,4),(21,4)]) (by kernel_rfl) (by simp[Av,get]) ?_;simp only[go_sem];refine ⟨⟨Cf _ _ rfl,by omega,by omega⟩,⟨Cf _ _ rfl,by omega,by omega⟩,?_⟩;obtain ⟨s1,JT⟩:∃s1,s1=s.enter v:=⟨_,rfl⟩;have q1:s.seen.set v (s.count+1)=s1.seen:=by rw[JT];rfl
   have q2:s.low.set v (s.count+1)=s1.low:=by rw[JT];rfl
   have q3:s.at_=s1.at_:=by rw[JT];rfl
   have q4:s.path++[v]=s1.path:=by rw[JT];rfl
   have q5:s.held++[v]=s1.held:=by rw[JT];rfl
   have q6:s.count+1=s1.count:=by rw[JT];rfl
   have q7:s.names=s1.names:=by rw[JT];rfl
   have q8:s.seen.length=s1.seen.length:=by rw[JT];simp[Sr.enter]
   have q9:s.low.length=s1.low.length:=by rw[JT];simp[Sr.enter]
   have q10:s.path.length+1=s1.path.length:=by rw[JT];simp[Sr.enter]
   have q11:s.held.length+1=s1.held.length:=by rw[JT];simp[Sr.enter]
   simp only[q1,q2];simp only[q3,q4,q5,q6,q7,q8,q9,q10,q11];rw[←JT] at hI1 AL;have TY:=hI1;obtain ⟨tj,cu,mo,UE,_,ZX,pl,p7⟩:=hI1;simp only at cu mo UE pl p7
   replace tj:TJ g sh Nx s1:=tj
   obtain ⟨_,ps,hp⟩:=ZX (show (1:Nat)≠0 by decide)
   replace hp:s1.path=ps++[v]:=hp
   obtain ⟨Zo,Om,LU,Abs,RC,hps,Amj⟩:=tj.last hp;have l1:=tj.l1;have l2:=tj.l2;have l3:=tj.l3;have l4:=tj.l4;have i1:(0:Int)≤(v:Int)∧(v:Int)<(g.length:Int):=by omega
   have ga:(Ag (nI s1.at_)).getD v []=[.int .i64 (s1.ad v:Nat)]:=by rw[AD (nI s1.at_) v (by rw[AQ];omega),B1];rfl
   have gg:=DH g v LU;refine AY mixed (p:=[(0,0),(1,0),(2,0),(3,0),(4,0),(5,0),(6,0),(7,0),(8,0),(9,0),(10,0),(11,0),(12,0),(13,0),(14,0),(15,0)]) (by kernel_rfl) (by simp[Av,get]) ?_;simp only[go_sem,Int.toNat_natCast,l1,l2,l3,l4,i1,ga,gg];cases c1:decide ((s1.ad v:Int)<((g.getD v []).length:Int))
   · simp only[go_sem,c1];refine AY mixed (p:=[(0,0),(1,0),(2,0),(3,0),(4,0),(5,0),(6,0),(7,0),(8,0),(9,0),(10,0),(11,0),(12,0),(13,0),(14,3)]) (by kernel_rfl) (by simp[Av,get]) ?_;have hpl:s1.path.length=ps.length+1:=by rw[hp];simp
     have NL:IntKind.i64.wrap ((s1.path.length:Int) - 1)=((ps.length:Nat):Int):=by rw[hpl,An (by omega) (by omega)];omega
     have TS:(0:Int)≤((ps.length:Nat):Int)∧((ps.length:Nat):Int)≤(s1.path.length:Int):=by omega
     have hw3:(((ps.length:Nat):Int) - 0).toNat=ps.length:=by omega
     have gl:(Ag (nI s1.low)).getD v []=[.int .i64 (s1.lw v:Nat)]:=by rw[AD (nI s1.low) v (by rw[AQ];omega),B1];rfl
     have gnv:(Ag (nI s1.seen)).getD v []=[.int .i64 (s1.sn v:Nat)]:=by rw[AD (nI s1.seen) v (by rw[AQ];omega),B1];rfl
     simp only[go_sem,Int.toNat_natCast,l1,l2,l3,l4,NL,TS,hw3];refine AY mixed (p:=[(0,0),(1,0),(2,0),(3,0),(4,0),(5,0),(6,0),(7,0),(8,0),(9,0),(10,0),(11,0),(12,0),(13,0),(14,0)]) (by kernel_rfl) (by simp[Av,get]) ?_;simp only[go_sem,Int.toNat_natCast,l1,l2,l3,l4,i1,gl,gnv];have Fe:s1.ad v=(g.getD v []).length:=by have:=of_decide_eq_false c1;have:=tj.atl v;omega
     rcases List.eq_nil_or_concat ps with rfl | ⟨EF,t,Aha⟩
     · have hlr:=tj.root (v:=v) (by simpa using hp);have c5:decide ((s1.lw v:Int)=(s1.sn v:Int))=true:=decide_eq_true (by omega);obtain ⟨i,hi,NP⟩:=List.mem_iff_getElem.1 Om;rw[←getD_eq (x:=0) hi] at NP;have hc:=EO g sh s1 s1.path 0 i hi (by omega) (Js tj hi NP).2.2 (fun w hw=>by rw[l4];exact (tj.VT w ((tj.Lw w).1 hw).1).1);simp only[Sr.bx,l1,l2,l3,l4,NP] at hc;simp only[go_sem,c5];refine Au hc ?_;rintro h' r ⟨m,⟨Qw,Qg⟩,rfl,rfl⟩;have hT':=tj.FE (ps:=[]) hp Fe hlr hi NP Qw Qg;have Bm:i=0:=by
         rcases Nat.eq_zero_or_pos i with h | h
         · exact h
         · obtain ⟨p,h3,_⟩:=hT'.anc (s1.held.getD 0 0) (by show _∈s1.held.take i;rw[getD_eq (show 0<s1.held.length by omega)];exact List.mem_iff_getElem.2 ⟨0,by simp;omega,by rw[List.getElem_take]⟩);cases h3
       subst Bm;simp only[go_sem];refine Bc ?_;simp only[go_sem];exact ⟨s1.FE [] 0 m,s1.path,s1.held,hT',rfl,by simp[Sr.FE],by show s1.count+_=_;rw[FY (s':=s1.FE [] 0 m) (s:=s1) rfl];exact cu,mo,UE,.inl rfl⟩
     · obtain rfl:ps=EF++[t]:=by rw[Aha,List.concat_eq_append]
       have htp:t∈s1.path:=by rw[hp];simp
       have htn:=(tj.VT t ((tj.Lw t).1 (tj.SE t htp)).1).1;have c6:decide ((0:Int)<(((EF++[t]).length:Nat):Int))=true:=decide_eq_true (by simp);have Zn:IntKind.i64.wrap ((((EF++[t]).length:Nat):Int) - 1)=((EF.length:Nat):Int):=by rw[An (by omega) (by omega)];simp
       have i5:(0:Int)≤((EF.length:Nat):Int)∧((EF.length:Nat):Int)<(((EF++[t]).length:Nat):Int):=by simp;omega
       have gp:(Ag (nI s1.path)).getD EF.length []=[.int .i64 (t:Nat)]:=by
         rw[AD (nI s1.path) EF.length (by rw[AQ,hp];simp),B1,hp];simp[List.getD]
       have i6:(0:Int)≤(t:Int)∧(t:Int)<(g.length:Int):=by omega
       have gt:(Ag (nI s1.low)).getD t []=[.int .i64 (s1.lw t:Nat)]:=by rw[AD (nI s1.low) t (by rw[AQ];omega),B1];rfl
       have RB:(if (s1.lw v:Int)<(s1.lw t:Int) then (s1.lw v:Int) else (s1.lw t:Int))=((min (s1.lw t) (s1.lw v):Nat):Int):=by split<;>omega
       have hcp:s1.path.take (EF++[t]).length=EF++[t]:=by rw[hp,List.take_left' rfl]
       cases c5:decide ((s1.lw v:Int)=(s1.sn v:Int))
       · have BC:s1.lw v≠s1.sn v:=by have:=of_decide_eq_false c5;omega
         simp only[go_sem,c5];simp only[go_sem,c6];refine AY mixed (p:=[(0,0),(1,0),(2,0),(3,0),(4,0),(5,0),(6,0),(7,0),(8,0),(9,0),(10,0),(11,0),(12,0),(13,0),(14,0)]) (by kernel_rfl) (by simp[Av,get]) ?_;simp only[go_sem,Int.toNat_natCast,Zn,i5,gp];refine AY mixed (p:=[(0,0),(1,0),(2,0),(3,0),(4,0),(5,0),(6,0),(7,0),(8,0),(9,0),(10,0),(11,0),(12,0),(13,0),(14,0),(15,0),(16,0),(17,0),(18,0),(19,0),(20,0),(21,3)]) (by kernel_rfl) (by simp[Av,get]) ?_;simp only[go_sem,Int.toNat_natCast,l1,l2,l3,l4,i6,i1,gt,gl,RB];obtain ⟨k1,k2⟩:=FI.back TY hp Fe BC (s1.path.length+1) (s1.held.length+1);refine ih ⟨1,s1.Qa (EF++[t]) t (min (s1.lw t) (s1.lw v)),t,(s1.path.length+1),(s1.held.length+1)⟩ _ k1 (Nat.lt_trans k2 AL) ?_;have e:(⟨s1.seen,s1.low.set t (min (s1.lw t) (s1.lw v)),s1.at_,s1.path.take (EF++[t]).length,s1.held.take s1.held.length,s1.count,s1.names⟩:Sr)=s1.Qa (EF++[t]) t (min (s1.lw t) (s1.lw v)):=by rw[hcp,List.take_length];rfl
         rw[←e];refine Wk.trans ?_ (Ae5 g sh 0 0 1 s1.seen (s1.low.set t (min (s1.lw t) (s1.lw v))) s1.at_ s1.path s1.held (EF++[t]).length s1.held.length s1.count s1.names t (by omega) (Nat.le_refl _));exact (Wk.forget (by simp[Le,AG,Av,get,Aa,Ac,Ad,D.ids,Ai,AO.ids,Ae,base,AQ,Bt,l1,l2,l3,l4]))
       · have hlr:s1.lw v=s1.sn v:=by have:=of_decide_eq_true c5;omega
         obtain ⟨i,hi,NP⟩:=List.mem_iff_getElem.1 Om;rw[←getD_eq (x:=0) hi] at NP;have hc:=EO g sh s1 s1.path (EF++[t]).length i hi (by omega) (Js tj hi NP).2.2 (fun w hw=>by rw[l4];exact (tj.VT w ((tj.Lw w).1 hw).1).1);simp only[Sr.bx,l1,l2,l3,l4,NP] at hc;simp only[go_sem,c5];refine Au hc ?_;rintro h' r ⟨m,⟨Qw,Qg⟩,rfl,rfl⟩;obtain ⟨k1,k2,k3⟩:=FI.comp TY hp Fe hlr hi NP Qw Qg (s1.path.length+1) (s1.held.length+1);rw[k3] at RB;have hls:s1.low.set t (s1.lw t)=s1.low:=by
           apply List.ext_getElem (by simp);intro j h1 h2;rw[List.getElem_set];split
           · rename_i e;subst e;exact getD_eq h2
           · rfl
         simp only[go_sem];simp only[go_sem,c6];refine AY mixed (p:=[(0,0),(1,0),(2,0),(3,0),(4,0),(5,0),(6,0),(7,0),(8,0),(9,0),(10,0),(11,0),(12,0),(13,0),(14,0)]) (by kernel_rfl) (by simp[Av,get]) ?_;simp only[go_sem,Int.toNat_natCast,Zn,i5,gp];refine AY mixed (p:=[(0,0),(1,0),(2,0),(3,0),(4,0),(5,0),(6,0),(7,0),(8,0),(9,0),(10,0),(11,0),(12,0),(13,0),(14,0),(15,0),(16,0),(17,0),(18,0),(19,0),(20,0),(21,3)]) (by kernel_rfl) (by simp[Av,get]) ?_;simp only[go_sem,Int.toNat_natCast,l1,l2,l3,l4,i6,i1,gt,gl,RB,hls];refine ih ⟨1,s1.FE (EF++[t]) i m,t,(s1.path.length+1),(s1.held.length+1)⟩ _ k1 (Nat.lt_trans k2 AL) ?_;have e:(⟨s1.seen,s1.low,s1.at_,s1.path.take (EF++[t]).length,s1.held.take i,s1.count,C2 s1.names (s1.held.drop i) m⟩:Sr)=s1.FE (EF++[t]) i m:=by rw[hcp];rfl
         rw[←e];refine Wk.trans ?_ (Ae5 g sh 0 0 1 s1.seen s1.low s1.at_ s1.path s1.held (EF++[t]).length i s1.count (C2 s1.names (s1.held.drop i) m) t (by omega) (by omega));exact (Wk.forget (by simp[Le,AG,Av,get,Aa,Ac,Ad,D.ids,Ai,AO.ids,Ae,base,AQ,Bt,l1,l2,l3,l4,FC,hls]))
   · have hk:s1.ad v<(g.getD v []).length:=by have:=of_decide_eq_true c1;omega
     obtain ⟨w,hw,hwn⟩:=tj.rng v _ hk;have gw:(Ag (g.getD v [])).getD (s1.ad v) []=[.int .i64 (w:Nat)]:=by rw[AD _ _ hk,hw]
     have i2:(0:Int)≤(s1.ad v:Int)∧(s1.ad v:Int)<((g.getD v []).length:Int):=by omega
     have i3:(0:Int)≤(w:Int)∧(w:Int)<(g.length:Int):=by omega
     have Yo:(g.getD v []).length≤10000000:=Bj _ (by rw[gde LU];exact List.getElem_mem LU);have hwr:IntKind.i64.wrap ((s1.ad v:Int)+1)=((s1.ad v+1:Nat):Int):=AZ (by omega);have gs:(Bf sh).getD w []=[.bool (sh.getD w false)]:=Eg sh w (by omega);have gn:(Ag (nI s1.seen)).getD w []=[.int .i64 (s1.sn w:Nat)]:=by rw[AD (nI s1.seen) w (by rw[AQ];omega),B1];rfl
     have gnm:(Ag s1.names).getD w []=[.int .i64 (s1.nm w)]:=by rw[AD s1.names w (by omega)];simp[Sr.nm,List.getD,show w<s1.names.length by omega]
     simp only[go_sem,c1];refine AY mixed (p:=[(0,0),(1,0),(2,0),(3,0),(4,0),(5,0),(6,0),(7,0),(8,0),(9,0),(10,0),(11,0),(12,0),(13,0),(14,0),(15,0),(16,0)]) (by kernel_rfl) (by simp[Av,get]) ?_;simp only[go_sem,Int.toNat_natCast,l1,l2,l3,l4,i1,ga,gg,i2,gw,i3,hwr,gs,FJ];cases c2:sh.getD w false;rotate_left
     · simp only[go_sem,c2];obtain ⟨k1,k2⟩:=FI.Abn TY hk hw (fun h=>by rw[h] at c2;cases c2) (s1.path.length+1) (s1.held.length+1);refine ih ⟨1,s1.inc v,v,(s1.path.length+1),(s1.held.length+1)⟩ _ k1 (Nat.lt_trans k2 AL) ?_;rw[show s1.inc v=(⟨s1.seen,s1.low,s1.at_.set v (s1.ad v+1),s1.path.take s1.path.length,s1.held.take s1.held.length,s1.count,s1.names⟩:Sr) by rw[List.take_length,List.take_length];rfl];refine Wk.trans ?_ (Ae5 g sh 0 0 1 s1.seen s1.low (s1.at_.set v (s1.ad v+1)) s1.path s1.held s1.path.length s1.held.length s1.count s1.names v (Nat.le_refl _) (Nat.le_refl _));exact (Wk.forget (by simp[Le,AG,Av,get,Aa,Ac,Ad,D.ids,Ai,AO.ids,Ae,base,AQ,Bt,l1,l2,l3,l4]))
     · simp only[go_sem,c2];simp only[go_sem,c2,Int.toNat_natCast,l1,i3,gn];cases c3:decide ((s1.sn w:Int)=0);rotate_left
       · simp only[go_sem,c3];obtain ⟨k1,k2⟩:=FI.Aq0 TY hk hw hwn c2 (by have:=of_decide_eq_true c3;omega) (s1.path.length+1) (s1.held.length+1);refine ih ⟨0,s1.inc v,w,(s1.path.length+1),(s1.held.length+1)⟩ _ k1 (Nat.lt_trans k2 AL) ?_;rw[show s1.inc v=(⟨s1.seen,s1.low,s1.at_.set v (s1.ad v+1),s1.path.take s1.path.length,s1.held.take s1.held.length,s1.count,s1.names⟩:Sr) by rw[List.take_length,List.take_length];rfl];refine Wk.trans ?_ (Ae5 g sh 0 0 0 s1.seen s1.low (s1.at_.set v (s1.ad v+1)) s1.path s1.held s1.path.length s1.held.length s1.count s1.names w (Nat.le_refl _) (Nat.le_refl _));exact (Wk.forget (by simp[Le,AG,Av,get,Aa,Ac,Ad,D.ids,Ai,AO.ids,Ae,base,AQ,Bt,l1,l2,l3,l4]))
       have h3:s1.sn w≠0:=by have:=of_decide_eq_false c3;omega
       simp only[go_sem,c3];simp only[go_sem,c3,Int.toNat_natCast,l4,i3,gnm];cases c4:decide (s1.nm w<0)
       · simp only[go_sem,c4];obtain ⟨k1,k2⟩:=FI.Abn TY hk hw (fun _=>⟨h3,fun hm=>by have:=((tj.Lw w).1 hm).2;have:=of_decide_eq_false c4;omega⟩) (s1.path.length+1) (s1.held.length+1);refine ih ⟨1,s1.inc v,v,(s1.path.length+1),(s1.held.length+1)⟩ _ k1 (Nat.lt_trans k2 AL) ?_;rw[show s1.inc v=(⟨s1.seen,s1.low,s1.at_.set v (s1.ad v+1),s1.path.take s1.path.length,s1.held.take s1.held.length,s1.count,s1.names⟩:Sr) by rw[List.take_length,List.take_length];rfl];refine Wk.trans ?_ (Ae5 g sh 0 0 1 s1.seen s1.low (s1.at_.set v (s1.ad v+1)) s1.path s1.held s1.path.length s1.held.length s1.count s1.names v (Nat.le_refl _) (Nat.le_refl _));exact (Wk.forget (by simp[Le,AG,Av,get,Aa,Ac,Ad,D.ids,Ai,AO.ids,Ae,base,AQ,Bt,l1,l2,l3,l4]))
       · have h4:=of_decide_eq_true c4;have gl:(Ag (nI s1.low)).getD v []=[.int .i64 (s1.lw v:Nat)]:=by rw[AD (nI s1.low) v (by rw[AQ];omega),B1];rfl
         simp only[go_sem,c4];refine AY mixed (p:=[(0,0),(1,0),(2,0),(3,0),(4,0),(5,0),(6,0),(7,0),(8,0),(9,0),(10,0),(11,0),(12,0),(13,0),(14,0),(15,0),(16,0),(17,0),(18,0),(19,0),(20,0),(21,3)]) (by kernel_rfl) (by simp[Av,get]) ?_;have hmn:(if (s1.sn w:Int)<(s1.lw v:Int) then (s1.sn w:Int) else (s1.lw v:Int))=((min (s1.lw v) (s1.sn w):Nat):Int):=by split<;>omega
         simp only[go_sem,Int.toNat_natCast,l1,l2,l3,l4,i1,i3,gl,gn,hmn];obtain ⟨k1,k2⟩:=FI.Apz TY hk hw c2 h3 h4 (s1.path.length+1) (s1.held.length+1);refine ih ⟨1,(s1.inc v).n9 v (min (s1.lw v) (s1.sn w)),v,(s1.path.length+1),(s1.held.length+1)⟩ _ k1 (Nat.lt_trans k2 AL) ?_;rw[show (s1.inc v).n9 v (min (s1.lw v) (s1.sn w))=(⟨s1.seen,s1.low.set v (min (s1.lw v) (s1.sn w)),s1.at_.set v (s1.ad v+1),s1.path.take s1.path.length,s1.held.take s1.held.length,s1.count,s1.names⟩:Sr) by rw[List.take_length,List.take_length];rfl];refine Wk.trans ?_ (Ae5 g sh 0 0 1 s1.seen (s1.low.set v (min (s1.lw v) (s1.sn w))) (s1.at_.set v (s1.ad v+1)) s1.path s1.held s1.path.length s1.held.length s1.count s1.names v (Nat.le_refl _) (Nat.le_refl _));exact (Wk.forget (by simp[Le,AG,Av,get,Aa,Ac,Ad,D.ids,Ai,AO.ids,Ae,base,AQ,Bt,l1,l2,l3,l4]))
 · rintro ⟨VU,s,v,p1,p2⟩ n hI ih;have TY:=hI;obtain ⟨tj,cu,mo,UE,at0,ZX,pl,p7⟩:=hI;simp only at tj cu mo UE at0 ZX pl p7;by_cases hl:VU=0
   · subst hl;obtain ⟨LU,Abs,hvz,hpv⟩:=at0 rfl
     replace tj:TJ g sh (fun w=>w=v) s:=tj
     have l1:=tj.l1;have l2:=tj.l2;have AL:=(K3 LU tj.l1 hvz).1;have hI1:FI g sh s0 v0 ⟨1,s.enter v,v,p1,p2⟩:=FI.enter tj cu mo (.inr UE) LU Abs hvz hpv pl p7 p1 p2;refine ⟨_,rfl,?_⟩;unfold FB.st;have i1:(0:Int)≤(v:Int)∧(v:Int)<(g.length:Int):=by omega
     have hwc:IntKind.i64.wrap ((s.count:Int)+1)=((s.count+1:Nat):Int):=AZ (by omega);have gn0:(Ag (nI s.seen)).getD v []=[.int .i64 (s.sn v:Nat)]:=by rw[AD (nI s.seen) v (by rw[AQ];omega),B1];rfl
     have gl0:(Ag (nI s.low)).getD v []=[.int .i64 (s.lw v:Nat)]:=by rw[AD (nI s.low) v (by rw[AQ];omega),B1];rfl
     have i1s:(0:Int)≤(v:Int)∧(v:Int)<(s.seen.length:Int):=by omega
     have i1l:(0:Int)≤(v:Int)∧(v:Int)<(s.low.length:Int):=by omega
     have hpb:s.path.length+1≤24∧s.held.length+1≤24:=by have:=(K3 (g:=g) LU l1 hvz).2.2;omega
     simp only[go_sem,hwc];refine AY mixed (p:=[(0,0),(1,0),(2,0),(3,0),(4,0),(5,0),(6,0),(7,0),(8,0),(9,0),(10,0),(11,0),(12,0),(13,0),(14,0),(15,0),(16,0),(17,0),(18,0),(19,4),(20,4),(21,4)]) (by kernel_rfl) (by simp[Av,get]) ?_;simp only[go_sem,hwc,Int.toNat_natCast,i1s,i1l,gn0,gl0];refine BB [(1000000,.box [.p (.sl (AM g)),.p (.sl (Bf sh)),.ref 1000001 0 s.seen.length s.seen.length,.ref 1000002 0 s.low.length s.low.length,.ref 1000003 0 s.at_.length s.at_.length,.ref 500005 0 s.path.length s.path.length,.ref 500006 0 s.held.length s.held.length,.p (.int .i64 ((s.count+1:Nat):Int)),.ref 1000006 0 s.names.length s.names.length])] mixed (p:=[(0,0),(1,0),(2,0),(3,0),(4,0),(5,0),(6,0),(9,0),(10,0),(11,0),(12,0),(13,0),(7,1),(14,1),(8,2),(15,2),(16,0),(17,0),(18,4),(19,4),(20,4),(21,4)]) (by kernel_rfl) (by simp[Av,get]) ?_;simp only[go_sem];refine ⟨⟨Cf _ _ rfl,by omega,by omega⟩,⟨Cf _ _ rfl,by omega,by omega⟩,?_⟩;obtain ⟨s1,JT⟩:∃s1,s1=s.enter v:=⟨_,rfl⟩;have q1:s.seen.set v (s.count+1)=s1.seen:=by rw[JT];rfl
     have q2:s.low.set v (s.count+1)=s1.low:=by rw[JT];rfl
     have q3:s.at_=s1.at_:=by rw[JT];rfl
     have q4:s.path++[v]=s1.path:=by rw[JT];rfl
     have q5:s.held++[v]=s1.held:=by rw[JT];rfl
     have q6:s.count+1=s1.count:=by rw[JT];rfl
     have q7:s.names=s1.names:=by rw[JT];rfl
     have q8:s.seen.length=s1.seen.length:=by rw[JT];simp[Sr.enter]
     have q9:s.low.length=s1.low.length:=by rw[JT];simp[Sr.enter]
     have q10:s.path.length+1=s1.path.length:=by rw[JT];simp[Sr.enter]
     have q11:s.held.length+1=s1.held.length:=by rw[JT];simp[Sr.enter]
     simp only[q1,q2];simp only[q3,q4,q5,q6,q7,q8,q9,q10,q11];rw[←JT] at hI1 AL;have TY:=hI1;obtain ⟨tj,cu,mo,UE,_,ZX,pl,p7⟩:=hI1;simp only at cu mo UE pl p7
     replace tj:TJ g sh Nx s1:=tj
     obtain ⟨_,ps,hp⟩:=ZX (show (1:Nat)≠0 by decide)
     replace hp:s1.path=ps++[v]:=hp
     obtain ⟨Zo,Om,LU,Abs,RC,hps,Amj⟩:=tj.last hp;have l1:=tj.l1;have l2:=tj.l2;have l3:=tj.l3;have l4:=tj.l4;have i1:(0:Int)≤(v:Int)∧(v:Int)<(g.length:Int):=by omega
     have ga:(Ag (nI s1.at_)).getD v []=[.int .i64 (s1.ad v:Nat)]:=by rw[AD (nI s1.at_) v (by rw[AQ];omega),B1];rfl
     have gg:=DH g v LU;refine AY mixed (p:=[(0,0),(1,0),(2,0),(3,0),(4,0),(5,0),(6,0),(7,0),(8,0),(9,0),(10,0),(11,0),(12,0),(13,0),(14,0),(15,0)]) (by kernel_rfl) (by simp[Av,get]) ?_;simp only[go_sem,Int.toNat_natCast,l1,l2,l3,l4,i1,ga,gg];cases c1:decide ((s1.ad v:Int)<((g.getD v []).length:Int))
     · simp only[go_sem,c1];refine AY mixed (p:=[(0,0),(1,0),(2,0),(3,0),(4,0),(5,0),(6,0),(7,0),(8,0),(9,0),(10,0),(11,0),(12,0),(13,0),(14,3)]) (by kernel_rfl) (by simp[Av,get]) ?_;have hpl:s1.path.length=ps.length+1:=by rw[hp];simp
       have NL:IntKind.i64.wrap ((s1.path.length:Int) - 1)=((ps.length:Nat):Int):=by rw[hpl,An (by omega) (by omega)];omega
       have TS:(0:Int)≤((ps.length:Nat):Int)∧((ps.length:Nat):Int)≤(s1.path.length:Int):=by omega
       have hw3:(((ps.length:Nat):Int) - 0).toNat=ps.length:=by omega
       have gl:(Ag (nI s1.low)).getD v []=[.int .i64 (s1.lw v:Nat)]:=by rw[AD (nI s1.low) v (by rw[AQ];omega),B1];rfl
       have gnv:(Ag (nI s1.seen)).getD v []=[.int .i64 (s1.sn v:Nat)]:=by rw[AD (nI s1.seen) v (by rw[AQ];omega),B1];rfl
       simp only[go_sem,Int.toNat_natCast,l1,l2,l3,l4,NL,TS,hw3];refine AY mixed (p:=[(0,0),(1,0),(2,0),(3,0),(4,0),(5,0),(6,0),(7,0),(8,0),(9,0),(10,0),(11,0),(12,0),(13,0),(14,0)]) (by kernel_rfl) (by simp[Av,get]) ?_;simp only[go_sem,Int.toNat_natCast,l1,l2,l3,l4,i1,gl,gnv];have Fe:s1.ad v=(g.getD v []).length:=by have:=of_decide_eq_false c1;have:=tj.atl v;omega
       rcases List.eq_nil_or_concat ps with rfl | ⟨EF,t,Aha⟩
       · have hlr:=tj.root (v:=v) (by simpa using hp);have c5:decide ((s1.lw v:Int)=(s1.sn v:Int))=true:=decide_eq_true (by omega);obtain ⟨i,hi,NP⟩:=List.mem_iff_getElem.1 Om;rw[←getD_eq (x:=0) hi] at NP;have hc:=EO g sh s1 s1.path 0 i hi (by omega) (Js tj hi NP).2.2 (fun w hw=>by rw[l4];exact (tj.VT w ((tj.Lw w).1 hw).1).1);simp only[Sr.bx,l1,l2,l3,l4,NP] at hc;simp only[go_sem,c5];refine Au hc ?_;rintro h' r ⟨m,⟨Qw,Qg⟩,rfl,rfl⟩;have hT':=tj.FE (ps:=[]) hp Fe hlr hi NP Qw Qg;have Bm:i=0:=by
           rcases Nat.eq_zero_or_pos i with h | h
           · exact h
           · obtain ⟨p,h3,_⟩:=hT'.anc (s1.held.getD 0 0) (by show _∈s1.held.take i;rw[getD_eq (show 0<s1.held.length by omega)];exact List.mem_iff_getElem.2 ⟨0,by simp;omega,by rw[List.getElem_take]⟩);cases h3
         subst Bm;simp only[go_sem];refine Bc ?_;simp only[go_sem];exact ⟨s1.FE [] 0 m,s1.path,s1.held,hT',rfl,by simp[Sr.FE],by show s1.count+_=_;rw[FY (s':=s1.FE [] 0 m) (s:=s1) rfl];exact cu,mo,UE,.inr ⟨p1,p2,rfl⟩⟩
       · obtain rfl:ps=EF++[t]:=by rw[Aha,List.concat_eq_append]
         have htp:t∈s1.path:=by rw[hp];simp
         have htn:=(tj.VT t ((tj.Lw t).1 (tj.SE t htp)).1).1;have c6:decide ((0:Int)<(((EF++[t]).length:Nat):Int))=true:=decide_eq_true (by simp);have Zn:IntKind.i64.wrap ((((EF++[t]).length:Nat):Int) - 1)=((EF.length:Nat):Int):=by rw[An (by omega) (by omega)];simp
         have i5:(0:Int)≤((EF.length:Nat):Int)∧((EF.length:Nat):Int)<(((EF++[t]).length:Nat):Int):=by simp;omega
         have gp:(Ag (nI s1.path)).getD EF.length []=[.int .i64 (t:Nat)]:=by
           rw[AD (nI s1.path) EF.length (by rw[AQ,hp];simp),B1,hp];simp[List.getD]
         have i6:(0:Int)≤(t:Int)∧(t:Int)<(g.length:Int):=by omega
         have gt:(Ag (nI s1.low)).getD t []=[.int .i64 (s1.lw t:Nat)]:=by rw[AD (nI s1.low) t (by rw[AQ];omega),B1];rfl
         have RB:(if (s1.lw v:Int)<(s1.lw t:Int) then (s1.lw v:Int) else (s1.lw t:Int))=((min (s1.lw t) (s1.lw v):Nat):Int):=by split<;>omega
         have hcp:s1.path.take (EF++[t]).length=EF++[t]:=by rw[hp,List.take_left' rfl]
         cases c5:decide ((s1.lw v:Int)=(s1.sn v:Int))
         · have BC:s1.lw v≠s1.sn v:=by have:=of_decide_eq_false c5;omega
           simp only[go_sem,c5];simp only[go_sem,c6];refine AY mixed (p:=[(0,0),(1,0),(2,0),(3,0),(4,0),(5,0),(6,0),(7,0),(8,0),(9,0),(10,0),(11,0),(12,0),(13,0),(14,0)]) (by kernel_rfl) (by simp[Av,get]) ?_;simp only[go_sem,Int.toNat_natCast,Zn,i5,gp];refine AY mixed (p:=[(0,0),(1,0),(2,0),(3,0),(4,0),(5,0),(6,0),(7,0),(8,0),(9,0),(10,0),(11,0),(12,0),(13,0),(14,0),(15,0),(16,0),(17,0),(18,0),(19,0),(20,0),(21,3)]) (by kernel_rfl) (by simp[Av,get]) ?_;simp only[go_sem,Int.toNat_natCast,l1,l2,l3,l4,i6,i1,gt,gl,RB];obtain ⟨k1,k2⟩:=FI.back TY hp Fe BC p1 p2;refine ih ⟨1,s1.Qa (EF++[t]) t (min (s1.lw t) (s1.lw v)),t,p1,p2⟩ _ k1 (Nat.lt_trans k2 AL) ?_;have e:(⟨s1.seen,s1.low.set t (min (s1.lw t) (s1.lw v)),s1.at_,s1.path.take (EF++[t]).length,s1.held.take s1.held.length,s1.count,s1.names⟩:Sr)=s1.Qa (EF++[t]) t (min (s1.lw t) (s1.lw v)):=by rw[hcp,List.take_length];rfl
           rw[←e];refine Wk.trans ?_ (Ql g sh p1 p2 1 s1.seen (s1.low.set t (min (s1.lw t) (s1.lw v))) s1.at_ s1.path s1.held (EF++[t]).length s1.held.length s1.count s1.names t (by omega) (Nat.le_refl _));exact (Wk.forget (by simp[Le,AG,Av,get,Aa,Ac,Ad,D.ids,Ai,AO.ids,Ae,base,AQ,Bt,l1,l2,l3,l4]))
         · have hlr:s1.lw v=s1.sn v:=by have:=of_decide_eq_true c5;omega
           obtain ⟨i,hi,NP⟩:=List.mem_iff_getElem.1 Om;rw[←getD_eq (x:=0) hi] at NP;have hc:=EO g sh s1 s1.path (EF++[t]).length i hi (by omega) (Js tj hi NP).2.2 (fun w hw=>by rw[l4];exact (tj.VT w ((tj.Lw w).1 hw).1).1);simp only[Sr.bx,l1,l2,l3,l4,NP] at hc;simp only[go_sem,c5];refine Au hc ?_;rintro h' r ⟨m,⟨Qw,Qg⟩,rfl,rfl⟩;obtain ⟨k1,k2,k3⟩:=FI.comp TY hp Fe hlr hi NP Qw Qg p1 p2;rw[k3] at RB;have hls:s1.low.set t (s1.lw t)=s1.low:=by
             apply List.ext_getElem (by simp);intro j h1 h2;rw[List.getElem_set];split
             · rename_i e;subst e;exact getD_eq h2
             · rfl
           simp only[go_sem];simp only[go_sem,c6];refine AY mixed (p:=[(0,0),(1,0),(2,0),(3,0),(4,0),(5,0),(6,0),(7,0),(8,0),(9,0),(10,0),(11,0),(12,0),(13,0),(14,0)]) (by kernel_rfl) (by simp[Av,get]) ?_;simp only[go_sem,Int.toNat_natCast,Zn,i5,gp];refine AY mixed (p:=[(0,0),(1,0),(2,0),(3,0),(4,0),(5,0),(6,0),(7,0),(8,0),(9,0),(10,0),(11,0),(12,0),(13,0),(14,0),(15,0),(16,0),(17,0),(18,0),(19,0),(20,0),(21,3)]) (by kernel_rfl) (by simp[Av,get]) ?_;simp only[go_sem,Int.toNat_natCast,l1,l2,l3,l4,i6,i1,gt,gl,RB,hls];refine ih ⟨1,s1.FE (EF++[t]) i m,t,p1,p2⟩ _ k1 (Nat.lt_trans k2 AL) ?_;have e:(⟨s1.seen,s1.low,s1.at_,s1.path.take (EF++[t]).length,s1.held.take i,s1.count,C2 s1.names (s1.held.drop i) m⟩:Sr)=s1.FE (EF++[t]) i m:=by rw[hcp];rfl
           rw[←e];refine Wk.trans ?_ (Ql g sh p1 p2 1 s1.seen s1.low s1.at_ s1.path s1.held (EF++[t]).length i s1.count (C2 s1.names (s1.held.drop i) m) t (by omega) (by omega));exact (Wk.forget (by simp[Le,AG,Av,get,Aa,Ac,Ad,D.ids,Ai,AO.ids,Ae,base,AQ,Bt,l1,l2,l3,l4,FC,hls]))
     · have hk:s1.ad v<(g.getD v []).length:=by have:=of_decide_eq_true c1;omega
       obtain ⟨w,hw,hwn⟩:=tj.rng v _ hk;have gw:(Ag (g.getD v [])).getD (s1.ad v) []=[.int .i64 (w:Nat)]:=by rw[AD _ _ hk,hw]
       have i2:(0:Int)≤(s1.ad v:Int)∧(s1.ad v:Int)<((g.getD v []).length:Int):=by omega
       have i3:(0:Int)≤(w:Int)∧(w:Int)<(g.length:Int):=by omega
       have Yo:(g.getD v []).length≤10000000:=Bj _ (by rw[gde LU];exact List.getElem_mem LU);have hwr:IntKind.i64.wrap ((s1.ad v:Int)+1)=((s1.ad v+1:Nat):Int):=AZ (by omega);have gs:(Bf sh).getD w []=[.bool (sh.getD w false)]:=Eg sh w (by omega);have gn:(Ag (nI s1.seen)).getD w []=[.int .i64 (s1.sn w:Nat)]:=by rw[AD (nI s1.seen) w (by rw[AQ];omega),B1];rfl
       have gnm:(Ag s1.names).getD w []=[.int .i64 (s1.nm w)]:=by rw[AD s1.names w (by omega)];simp[Sr.nm,List.getD,show w<s1.names.length by omega]
       simp only[go_sem,c1];refine AY mixed (p:=[(0,0),(1,0),(2,0),(3,0),(4,0),(5,0),(6,0),(7,0),(8,0),(9,0),(10,0),(11,0),(12,0),(13,0),(14,0),(15,0),(16,0)]) (by kernel_rfl) (by simp[Av,get]) ?_;simp only[go_sem,Int.toNat_natCast,l1,l2,l3,l4,i1,ga,gg,i2,gw,i3,hwr,gs,FJ];cases c2:sh.getD w false;rotate_left
       · simp only[go_sem,c2];obtain ⟨k1,k2⟩:=FI.Abn TY hk hw (fun h=>by rw[h] at c2;cases c2) p1 p2;refine ih ⟨1,s1.inc v,v,p1,p2⟩ _ k1 (Nat.lt_trans k2 AL) ?_;rw[show s1.inc v=(⟨s1.seen,s1.low,s1.at_.set v (s1.ad v+1),s1.path.take s1.path.length,s1.held.take s1.held.length,s1.count,s1.names⟩:Sr) by rw[List.take_length,List.take_length];rfl];refine Wk.trans ?_ (Ql g sh p1 p2 1 s1.seen s1.low (s1.at_.set v (s1.ad v+1)) s1.path s1.held s1.path.length s1.held.length s1.count s1.names v (Nat.le_refl _) (Nat.le_refl _));exact (Wk.forget (by simp[Le,AG,Av,get,Aa,Ac,Ad,D.ids,Ai,AO.ids,Ae,base,AQ,Bt,l1,l2,l3,l4]))
       · simp only[go_sem,c2];simp only[go_sem,c2,Int.toNat_natCast,l1,i3,gn];cases c3:decide ((s1.sn w:Int)=0);rotate_left
         · simp only[go_sem,c3];obtain ⟨k1,k2⟩:=FI.Aq0 TY hk hw hwn c2 (by have:=of_decide_eq_true c3;omega) p1 p2;refine ih ⟨0,s1.inc v,w,p1,p2⟩ _ k1 (Nat.lt_trans k2 AL) ?_;rw[show s1.inc v=(⟨s1.seen,s1.low,s1.at_.set v (s1.ad v+1),s1.path.take s1.path.length,s1.held.take s1.held.length,s1.count,s1.names⟩:Sr) by rw[List.take_length,List.take_length];rfl];refine Wk.trans ?_ (Ql g sh p1 p2 0 s1.seen s1.low (s1.at_.set v (s1.ad v+1)) s1.path s1.held s1.path.length s1.held.length s1.count s1.names w (Nat.le_refl _) (Nat.le_refl _));exact (Wk.forget (by simp[Le,AG,Av,get,Aa,Ac,Ad,D.ids,Ai,AO.ids,Ae,base,AQ,Bt,l1,l2,l3,l4]))
         have h3:s1.sn w≠0:=by have:=of_decide_eq_false c3;omega
         simp only[go_sem,c3];simp only[go_sem,c3,Int.toNat_natCast,l4,i3,gnm];cases c4:decide (s1.nm w<0)
         · simp only[go_sem,c4];obtain ⟨k1,k2⟩:=FI.Abn TY hk hw (fun _=>⟨h3,fun hm=>by have:=((tj.Lw w).1 hm).2;have:=of_decide_eq_false c4;omega⟩) p1 p2;refine ih ⟨1,s1.inc v,v,p1,p2⟩ _ k1 (Nat.lt_trans k2 AL) ?_;rw[show s1.inc v=(⟨s1.seen,s1.low,s1.at_.set v (s1.ad v+1),s1.path.take s1.path.length,s1.held.take s1.held.length,s1.count,s1.names⟩:Sr) by rw[List.take_length,List.take_length];rfl];refine Wk.trans ?_ (Ql g sh p1 p2 1 s1.seen s1.low (s1.at_.set v (s1.ad v+1)) s1.path s1.held s1.path.length s1.held.length s1.count s1.names v (Nat.le_refl _) (Nat.le_refl _));exact (Wk.forget (by simp[Le,AG,Av,get,Aa,Ac,Ad,D.ids,Ai,AO.ids,Ae,base,AQ,Bt,l1,l2,l3,l4]))
         · have h4:=of_decide_eq_true c4;have gl:(Ag (nI s1.low)).getD v []=[.int .i64 (s1.lw v:Nat)]:=by rw[AD (nI s1.low) v (by rw[AQ];omega),B1];rfl
           simp only[go_sem,c4];refine AY mixed (p:=[(0,0),(1,0),(2,0),(3,0),(4,0),(5,0),(6,0),(7,0),(8,0),(9,0),(10,0),(11,0),(12,0),(13,0),(14,0),(15,0),(16,0),(17,0),(18,0),(19,0),(20,0),(21,3)]) (by kernel_rfl) (by simp[Av,get]) ?_;have hmn:(if (s1.sn w:Int)<(s1.lw v:Int) then (s1.sn w:Int) else (s1.lw v:Int))=((min (s1.lw v) (s1.sn w):Nat):Int):=by split<;>omega
           simp only[go_sem,Int.toNat_natCast,l1,l2,l3,l4,i1,i3,gl,gn,hmn];obtain ⟨k1,k2⟩:=FI.Apz TY hk hw c2 h3 h4 p1 p2;refine ih ⟨1,(s1.inc v).n9 v (min (s1.lw v) (s1.sn w)),v,p1,p2⟩ _ k1 (Nat.lt_trans k2 AL) ?_;rw[show (s1.inc v).n9 v (min (s1.lw v) (s1.sn w))=(⟨s1.seen,s1.low.set v (min (s1.lw v) (s1.sn w)),s1.at_.set v (s1.ad v+1),s1.path.take s1.path.length,s1.held.take s1.held.length,s1.count,s1.names⟩:Sr) by rw[List.take_length,List.take_length];rfl];refine Wk.trans ?_ (Ql g sh p1 p2 1 s1.seen (s1.low.set v (min (s1.lw v) (s1.sn w))) (s1.at_.set v (s1.ad v+1)) s1.path s1.held s1.path.length s1.held.length s1.count s1.names v (Nat.le_refl _) (Nat.le_refl _));exact (Wk.forget (by simp[Le,AG,Av,get,Aa,Ac,Ad,D.ids,Ai,AO.ids,Ae,base,AQ,Bt,l1,l2,l3,l4]))
   · obtain ⟨rfl,ps,hp⟩:=ZX hl;rw[if_neg hl] at tj;refine ⟨_,rfl,?_⟩;obtain ⟨Zo,Om,LU,Abs,RC,hps,Amj⟩:=tj.last hp;unfold FB.st;simp only[go_sem];have l1:=tj.l1;have l2:=tj.l2;have l3:=tj.l3;have l4:=tj.l4;have i1:(0:Int)≤(v:Int)∧(v:Int)<(g.length:Int):=by omega
     have ga:(Ag (nI s.at_)).getD v []=[.int .i64 (s.ad v:Nat)]:=by rw[AD (nI s.at_) v (by rw[AQ];omega),B1];rfl
     have gg:=DH g v LU;refine AY mixed (p:=[(0,0),(1,0),(2,0),(3,0),(4,0),(5,0),(6,0),(7,0),(8,0),(9,0),(10,0),(11,0),(12,0),(13,0),(14,0),(15,0)]) (by kernel_rfl) (by simp[Av,get]) ?_;simp only[go_sem,Int.toNat_natCast,l1,l2,l3,l4,i1,ga,gg];cases c1:decide ((s.ad v:Int)<((g.getD v []).length:Int))
     · simp only[go_sem,c1];refine AY mixed (p:=[(0,0),(1,0),(2,0),(3,0),(4,0),(5,0),(6,0),(7,0),(8,0),(9,0),(10,0),(11,0),(12,0),(13,0),(14,3)]) (by kernel_rfl) (by simp[Av,get]) ?_;have hpl:s.path.length=ps.length+1:=by rw[hp];simp
       have NL:IntKind.i64.wrap ((s.path.length:Int) - 1)=((ps.length:Nat):Int):=by rw[hpl,An (by omega) (by omega)];omega
       have TS:(0:Int)≤((ps.length:Nat):Int)∧((ps.length:Nat):Int)≤(s.path.length:Int):=by omega
       have hw3:(((ps.length:Nat):Int) - 0).toNat=ps.length:=by omega
       have gl:(Ag (nI s.low)).getD v []=[.int .i64 (s.lw v:Nat)]:=by rw[AD (nI s.low) v (by rw[AQ];omega),B1];rfl
       have gnv:(Ag (nI s.seen)).getD v []=[.int .i64 (s.sn v:Nat)]:=by rw[AD (nI s.seen) v (by rw[AQ];omega),B1];rfl
       simp only[go_sem,Int.toNat_natCast,l1,l2,l3,l4,NL,TS,hw3];refine AY mixed (p:=[(0,0),(1,0),(2,0),(3,0),(4,0),(5,0),(6,0),(7,0),(8,0),(9,0),(10,0),(11,0),(12,0),(13,0),(14,0)]) (by kernel_rfl) (by simp[Av,get]) ?_;simp only[go_sem,Int.toNat_natCast,l1,l2,l3,l4,i1,gl,gnv];have Fe:s.ad v=(g.getD v []).length:=by have:=of_decide_eq_false c1;have:=tj.atl v;omega
       rcases List.eq_nil_or_concat ps with rfl | ⟨EF,t,Aha⟩
       · have hlr:=tj.root (v:=v) (by simpa using hp);have c5:decide ((s.lw v:Int)=(s.sn v:Int))=true:=decide_eq_true (by omega);obtain ⟨i,hi,NP⟩:=List.mem_iff_getElem.1 Om;rw[←getD_eq (x:=0) hi] at NP;have hc:=EO g sh s s.path 0 i hi (by omega) (Js tj hi NP).2.2 (fun w hw=>by rw[l4];exact (tj.VT w ((tj.Lw w).1 hw).1).1);simp only[Sr.bx,l1,l2,l3,l4,NP] at hc;simp only[go_sem,c5];refine Au hc ?_;rintro h' r ⟨m,⟨Qw,Qg⟩,rfl,rfl⟩;have hT':=tj.FE (ps:=[]) hp Fe hlr hi NP Qw Qg;have Bm:i=0:=by
           rcases Nat.eq_zero_or_pos i with h | h
           · exact h
           · obtain ⟨p,h3,_⟩:=hT'.anc (s.held.getD 0 0) (by show _∈s.held.take i;rw[getD_eq (show 0<s.held.length by omega)];exact List.mem_iff_getElem.2 ⟨0,by simp;omega,by rw[List.getElem_take]⟩);cases h3
         subst Bm;simp only[go_sem];refine Bc ?_;simp only[go_sem];exact ⟨s.FE [] 0 m,s.path,s.held,hT',rfl,by simp[Sr.FE],by show s.count+_=_;rw[FY (s':=s.FE [] 0 m) (s:=s) rfl];exact cu,mo,UE,.inr ⟨p1,p2,rfl⟩⟩
       · obtain rfl:ps=EF++[t]:=by rw[Aha,List.concat_eq_append]
         have htp:t∈s.path:=by rw[hp];simp
         have htn:=(tj.VT t ((tj.Lw t).1 (tj.SE t htp)).1).1;have c6:decide ((0:Int)<(((EF++[t]).length:Nat):Int))=true:=decide_eq_true (by simp);have Zn:IntKind.i64.wrap ((((EF++[t]).length:Nat):Int) - 1)=((EF.length:Nat):Int):=by rw[An (by omega) (by omega)];simp
         have i5:(0:Int)≤((EF.length:Nat):Int)∧((EF.length:Nat):Int)<(((EF++[t]).length:Nat):Int):=by simp;omega
         have gp:(Ag (nI s.path)).getD EF.length []=[.int .i64 (t:Nat)]:=by
           rw[AD (nI s.path) EF.length (by rw[AQ,hp];simp),B1,hp];simp[List.getD]
         have i6:(0:Int)≤(t:Int)∧(t:Int)<(g.length:Int):=by omega
         have gt:(Ag (nI s.low)).getD t []=[.int .i64 (s.lw t:Nat)]:=by rw[AD (nI s.low) t (by rw[AQ];omega),B1];rfl
         have RB:(if (s.lw v:Int)<(s.lw t:Int) then (s.lw v:Int) else (s.lw t:Int))=((min (s.lw t) (s.lw v):Nat):Int):=by split<;>omega
         have hcp:s.path.take (EF++[t]).length=EF++[t]:=by rw[hp,List.take_left' rfl]
         cases c5:decide ((s.lw v:Int)=(s.sn v:Int))
         · have BC:s.lw v≠s.sn v:=by have:=of_decide_eq_false c5;omega
           simp only[go_sem,c5];simp only[go_sem,c6];refine AY mixed (p:=[(0,0),(1,0),(2,0),(3,0),(4,0),(5,0),(6,0),(7,0),(8,0),(9,0),(10,0),(11,0),(12,0),(13,0),(14,0)]) (by kernel_rfl) (by simp[Av,get]) ?_;simp only[go_sem,Int.toNat_natCast,Zn,i5,gp];refine AY mixed (p:=[(0,0),(1,0),(2,0),(3,0),(4,0),(5,0),(6,0),(7,0),(8,0),(9,0),(10,0),(11,0),(12,0),(13,0),(14,0),(15,0),(16,0),(17,0),(18,0),(19,0),(20,0),(21,3)]) (by kernel_rfl) (by simp[Av,get]) ?_;simp only[go_sem,Int.toNat_natCast,l1,l2,l3,l4,i6,i1,gt,gl,RB];obtain ⟨k1,k2⟩:=FI.back TY hp Fe BC p1 p2;refine ih ⟨1,s.Qa (EF++[t]) t (min (s.lw t) (s.lw v)),t,p1,p2⟩ _ k1 k2 ?_;have e:(⟨s.seen,s.low.set t (min (s.lw t) (s.lw v)),s.at_,s.path.take (EF++[t]).length,s.held.take s.held.length,s.count,s.names⟩:Sr)=s.Qa (EF++[t]) t (min (s.lw t) (s.lw v)):=by rw[hcp,List.take_length];rfl
           rw[←e];refine Wk.trans ?_ (Ql g sh p1 p2 1 s.seen (s.low.set t (min (s.lw t) (s.lw v))) s.at_ s.path s.held (EF++[t]).length s.held.length s.count s.names t (by omega) (Nat.le_refl _));exact (Wk.forget (by simp[Le,AG,Av,get,Aa,Ac,Ad,D.ids,Ai,AO.ids,Ae,base,AQ,Bt,l1,l2,l3,l4]))
         · have hlr:s.lw v=s.sn v:=by have:=of_decide_eq_true c5;omega
           obtain ⟨i,hi,NP⟩:=List.mem_iff_getElem.1 Om;rw[←getD_eq (x:=0) hi] at NP;have hc:=EO g sh s s.path (EF++[t]).length i hi (by omega) (Js tj hi NP).2.2 (fun w hw=>by rw[l4];exact (tj.VT w ((tj.Lw w).1 hw).1).1);simp only[Sr.bx,l1,l2,l3,l4,NP] at hc;simp only[go_sem,c5];refine Au hc ?_;rintro h' r ⟨m,⟨Qw,Qg⟩,rfl,rfl⟩;obtain ⟨k1,k2,k3⟩:=FI.comp TY hp Fe hlr hi NP Qw Qg p1 p2;rw[k3] at RB;have hls:s.low.set t (s.lw t)=s.low:=by
             apply List.ext_getElem (by simp);intro j h1 h2;rw[List.getElem_set];split
             · rename_i e;subst e;exact getD_eq h2
             · rfl
           simp only[go_sem];simp only[go_sem,c6];refine AY mixed (p:=[(0,0),(1,0),(2,0),(3,0),(4,0),(5,0),(6,0),(7,0),(8,0),(9,0),(10,0),(11,0),(12,0),(13,0),(14,0)]) (by kernel_rfl) (by simp[Av,get]) ?_;simp only[go_sem,Int.toNat_natCast,Zn,i5,gp];refine AY mixed (p:=[(0,0),(1,0),(2,0),(3,0),(4,0),(5,0),(6,0),(7,0),(8,0),(9,0),(10,0),(11,0),(12,0),(13,0),(14,0),(15,0),(16,0),(17,0),(18,0),(19,0),(20,0),(21,3)]) (by kernel_rfl) (by simp[Av,get]) ?_;simp only[go_sem,Int.toNat_natCast,l1,l2,l3,l4,i6,i1,gt,gl,RB,hls];refine ih ⟨1,s.FE (EF++[t]) i m,t,p1,p2⟩ _ k1 k2 ?_;have e:(⟨s.seen,s.low,s.at_,s.path.take (EF++[t]).length,s.held.take i,s.count,C2 s.names (s.held.drop i) m⟩:Sr)=s.FE (EF++[t]) i m:=by rw[hcp];rfl
           rw[←e];refine Wk.trans ?_ (Ql g sh p1 p2 1 s.seen s.low s.at_ s.path s.held (EF++[t]).length i s.count (C2 s.names (s.held.drop i) m) t (by omega) (by omega));exact (Wk.forget (by simp[Le,AG,Av,get,Aa,Ac,Ad,D.ids,Ai,AO.ids,Ae,base,AQ,Bt,l1,l2,l3,l4,FC,hls]))
     · have hk:s.ad v<(g.getD v []).length:=by have:=of_decide_eq_true c1;omega
       obtain ⟨w,hw,hwn⟩:=tj.rng v _ hk;have gw:(Ag (g.getD v [])).getD (s.ad v) []=[.int .i64 (w:Nat)]:=by rw[AD _ _ hk,hw]
       have i2:(0:Int)≤(s.ad v:Int)∧(s.ad v:Int)<((g.getD v []).length:Int):=by omega
       have i3:(0:Int)≤(w:Int)∧(w:Int)<(g.length:Int):=by omega
       have Yo:(g.getD v []).length≤10000000:=Bj _ (by rw[gde LU];exact List.getElem_mem LU);have hwr:IntKind.i64.wrap ((s.ad v:Int)+1)=((s.ad v+1:Nat):Int):=AZ (by omega);have gs:(Bf sh).getD w []=[.bool (sh.getD w false)]:=Eg sh w (by omega);have gn:(Ag (nI s.seen)).getD w []=[.int .i64 (s.sn w:Nat)]:=by rw[AD (nI s.seen) w (by rw[AQ];omega),B1];rfl
       have gnm:(Ag s.names).getD w []=[.int .i64 (s.nm w)]:=by rw[AD s.names w (by omega)];simp[Sr.nm,List.getD,show w<s.names.length by omega]
       simp only[go_sem,c1];refine AY mixed (p:=[(0,0),(1,0),(2,0),(3,0),(4,0),(5,0),(6,0),(7,0),(8,0),(9,0),(10,0),(11,0),(12,0),(13,0),(14,0),(15,0),(16,0)]) (by kernel_rfl) (by simp[Av,get]) ?_;simp only[go_sem,Int.toNat_natCast,l1,l2,l3,l4,i1,ga,gg,i2,gw,i3,hwr,gs,FJ];cases c2:sh.getD w false;rotate_left
       · simp only[go_sem,c2];obtain ⟨k1,k2⟩:=FI.Abn TY hk hw (fun h=>by rw[h] at c2;cases c2) p1 p2;refine ih ⟨1,s.inc v,v,p1,p2⟩ _ k1 k2 ?_;rw[show s.inc v=(⟨s.seen,s.low,s.at_.set v (s.ad v+1),s.path.take s.path.length,s.held.take s.held.length,s.count,s.names⟩:Sr) by rw[List.take_length,List.take_length];rfl];refine Wk.trans ?_ (Ql g sh p1 p2 1 s.seen s.low (s.at_.set v (s.ad v+1)) s.path s.held s.path.length s.held.length s.count s.names v (Nat.le_refl _) (Nat.le_refl _));exact (Wk.forget (by simp[Le,AG,Av,get,Aa,Ac,Ad,D.ids,Ai,AO.ids,Ae,base,AQ,Bt,l1,l2,l3,l4]))
       · simp only[go_sem,c2];simp only[go_sem,c2,Int.toNat_natCast,l1,i3,gn];cases c3:decide ((s.sn w:Int)=0);rotate_left
         · simp only[go_sem,c3];obtain ⟨k1,k2⟩:=FI.Aq0 TY hk hw hwn c2 (by have:=of_decide_eq_true c3;omega) p1 p2;refine ih ⟨0,s.inc v,w,p1,p2⟩ _ k1 k2 ?_;rw[show s.inc v=(⟨s.seen,s.low,s.at_.set v (s.ad v+1),s.path.take s.path.length,s.held.take s.held.length,s.count,s.names⟩:Sr) by rw[List.take_length,List.take_length];rfl];refine Wk.trans ?_ (Ql g sh p1 p2 0 s.seen s.low (s.at_.set v (s.ad v+1)) s.path s.held s.path.length s.held.length s.count s.names w (Nat.le_refl _) (Nat.le_refl _));exact (Wk.forget (by simp[Le,AG,Av,get,Aa,Ac,Ad,D.ids,Ai,AO.ids,Ae,base,AQ,Bt,l1,l2,l3,l4]))
         have h3:s.sn w≠0:=by have:=of_decide_eq_false c3;omega
         simp only[go_sem,c3];simp only[go_sem,c3,Int.toNat_natCast,l4,i3,gnm];cases c4:decide (s.nm w<0)
         · simp only[go_sem,c4];obtain ⟨k1,k2⟩:=FI.Abn TY hk hw (fun _=>⟨h3,fun hm=>by have:=((tj.Lw w).1 hm).2;have:=of_decide_eq_false c4;omega⟩) p1 p2;refine ih ⟨1,s.inc v,v,p1,p2⟩ _ k1 k2 ?_;rw[show s.inc v=(⟨s.seen,s.low,s.at_.set v (s.ad v+1),s.path.take s.path.length,s.held.take s.held.length,s.count,s.names⟩:Sr) by rw[List.take_length,List.take_length];rfl];refine Wk.trans ?_ (Ql g sh p1 p2 1 s.seen s.low (s.at_.set v (s.ad v+1)) s.path s.held s.path.length s.held.length s.count s.names v (Nat.le_refl _) (Nat.le_refl _));exact (Wk.forget (by simp[Le,AG,Av,get,Aa,Ac,Ad,D.ids,Ai,AO.ids,Ae,base,AQ,Bt,l1,l2,l3,l4]))
         · have h4:=of_decide_eq_true c4;have gl:(Ag (nI s.low)).getD v []=[.int .i64 (s.lw v:Nat)]:=by rw[AD (nI s.low) v (by rw[AQ];omega),B1];rfl
           simp only[go_sem,c4];refine AY mixed (p:=[(0,0),(1,0),(2,0),(3,0),(4,0),(5,0),(6,0),(7,0),(8,0),(9,0),(10,0),(11,0),(12,0),(13,0),(14,0),(15,0),(16,0),(17,0),(18,0),(19,0),(20,0),(21,3)]) (by kernel_rfl) (by simp[Av,get]) ?_;have hmn:(if (s.sn w:Int)<(s.lw v:Int) then (s.sn w:Int) else (s.lw v:Int))=((min (s.lw v) (s.sn w):Nat):Int):=by split<;>omega
           simp only[go_sem,Int.toNat_natCast,l1,l2,l3,l4,i1,i3,gl,gn,hmn];obtain ⟨k1,k2⟩:=FI.Apz TY hk hw c2 h3 h4 p1 p2;refine ih ⟨1,(s.inc v).n9 v (min (s.lw v) (s.sn w)),v,p1,p2⟩ _ k1 k2 ?_;rw[show (s.inc v).n9 v (min (s.lw v) (s.sn w))=(⟨s.seen,s.low.set v (min (s.lw v) (s.sn w)),s.at_.set v (s.ad v+1),s.path.take s.path.length,s.held.take s.held.length,s.count,s.names⟩:Sr) by rw[List.take_length,List.take_length];rfl];refine Wk.trans ?_ (Ql g sh p1 p2 1 s.seen (s.low.set v (min (s.lw v) (s.sn w))) (s.at_.set v (s.ad v+1)) s.path s.held s.path.length s.held.length s.count s.names v (Nat.le_refl _) (Nat.le_refl _));exact (Wk.forget (by simp[Le,AG,Av,get,Aa,Ac,Ad,D.ids,Ai,AO.ids,Ae,base,AQ,Bt,l1,l2,l3,l4]))
structure NB where
 k:Nat
 s:Sr
def NB.st (g:List (List Int)) (sh:List Bool) (b:NB):St:=⟨[(1,.p (.sl (Bf sh))),(8,.ptr 30 0),(31,.p (.int .i64 (g.length:Nat))),(32,.p (.int .i64 (b.k:Nat)))],
 [(30,.box [.p (.sl (AM g)),.p (.sl (Bf sh)),.ref 21 0 g.length g.length,.ref 23 0 g.length g.length,.ref 25 0 g.length g.length,.ref 40005 0 0 0,.ref 40006 0 0 0,.p (.int .i64 (b.s.count:Nat)),.ref 10028 0 g.length g.length]),
  (25,.arr 3 1 (Ag (nI b.s.at_))),(23,.arr 3 1 (Ag (nI b.s.low))),(21,.arr 3 1 (Ag (nI b.s.seen))),(10028,.arr 3 1 (Ag b.s.names)),(40005,.arr 3 1 []),(40006,.arr 3 1 [])],58⟩
def Wv (n:Nat):Sr:=⟨List.replicate n 0,List.replicate n 0,List.replicate n 0,[],[],0,List.replicate n (-1)⟩
def NIc (g:List (List Int)) (sh:List Bool) (b:NB):Prop:=b.k≤g.length∧TJ g sh Nx b.s∧b.s.path=[]∧b.s.held=[]∧b.s.count+JP g b.s=g.length∧∀x,x<b.k→sh.getD x false=false→b.s.sn x≠0
theorem Aps (n:Nat):nI (List.replicate n 0)=List.replicate n 0:=by simp[nI]
theorem Aum (g:List (List Int)) (sh:List Bool) (k:Nat) (s:Sr) (P H:List Nat):Wk ⟨[(1,.p (.sl (Bf sh))),(8,.ptr 30 0),(31,.p (.int .i64 (g.length:Nat))),(32,.p (.int .i64 (k:Nat)))],
     [(30,.box [.p (.sl (AM g)),.p (.sl (Bf sh)),.ref 21 0 g.length g.length,.ref 23 0 g.length g.length,.ref 25 0 g.length g.length,.ref 10052 0 0 P.length,.ref 20052 0 0 H.length,.p (.int .i64 (s.count:Nat)),.ref 10028 0 g.length g.length]),
      (25,.arr 3 1 (Ag (nI s.at_))),(23,.arr 3 1 (Ag (nI s.low))),(21,.arr 3 1 (Ag (nI s.seen))),(10028,.arr 3 1 (Ag s.names)),(10052,.arr 3 1 (Ag (nI P))),(20052,.arr 3 1 (Ag (nI H)))],58⟩ (NB.st g sh ⟨k,s⟩):=by
 refine (Wk.FV (id:=30) (j:=5) (q:=10052) (k:=0) (es:=Ag (nI P)) 40005 rfl (by simp[AQ,Ab]) rfl (Nat.zero_le _) rfl).trans ?_;refine (Wk.FV (id:=30) (j:=6) (q:=20052) (k:=0) (es:=Ag (nI H)) 40006 rfl (by simp[AQ,Ab]) rfl (Nat.zero_le _) rfl).trans ?_;exact (Wk.forget (by simp[Le,AG,Av,get,Aa,Ac,Ad,D.ids,Ai,AO.ids,Ae,base,NB.st,AQ,Ab,List.take_zero]))
theorem Ay2 (g:List (List Int)) (sh:List Bool) (k:Nat) (s:Sr) (P H:List Nat):Wk ⟨[(1,.p (.sl (Bf sh))),(8,.ptr 30 0),(31,.p (.int .i64 (g.length:Nat))),(32,.p (.int .i64 (k:Nat)))],
     [(30,.box [.p (.sl (AM g)),.p (.sl (Bf sh)),.ref 21 0 g.length g.length,.ref 23 0 g.length g.length,.ref 25 0 g.length g.length,.ref 40005 0 0 P.length,.ref 40006 0 0 H.length,.p (.int .i64 (s.count:Nat)),.ref 10028 0 g.length g.length]),
      (25,.arr 3 1 (Ag (nI s.at_))),(23,.arr 3 1 (Ag (nI s.low))),(21,.arr 3 1 (Ag (nI s.seen))),(10028,.arr 3 1 (Ag s.names)),(40005,.arr 3 1 (Ag (nI P))),(40006,.arr 3 1 (Ag (nI H)))],58⟩ (NB.st g sh ⟨k,s⟩):=by
 refine (Wk.FV (id:=30) (j:=5) (q:=40005) (k:=0) (es:=Ag (nI P)) 10052 rfl (by simp[AQ,Ab]) rfl (Nat.zero_le _) rfl).trans ?_;refine (Wk.FV (id:=30) (j:=6) (q:=40006) (k:=0) (es:=Ag (nI H)) 20052 rfl (by simp[AQ,Ab]) rfl (Nat.zero_le _) rfl).trans ?_;refine Wk.trans ?_ (Aum g sh k s [] []);exact (Wk.forget (by simp[Le,AG,Av,get,Aa,Ac,Ad,D.ids,Ai,AO.ids,Ae,base,AQ,Ab,List.take_zero,nI,Ag]))
theorem Ae8 (g:List (List Int)) (sh:List Bool) (hg:g.length≤24) (Bj:∀r∈g,r.length≤10000000) (FJ:sh.length=g.length) (hc:Dt g sh=some 0) (h00:NIc g sh ⟨0,Wv g.length⟩):
   Aj Tryz.prog 67 [.p (.sl (AM g)),.p (.sl (Bf sh))] [] fun h d=>∃s,(TJ g sh Nx s∧s.path=[]∧s.held=[]∧∀x,x<g.length→sh.getD x false=false→s.sn x≠0)∧h=[(0,.arr 3 1 (Ag s.names))]∧d= .BA [.ref 0 0 g.length g.length,.p (.int .i64 0)]:=by
 have h0:(0:Int)≤((g.length:Nat):Int):=by omega
 refine Ak Tryz.func67 rfl Xp (by simp[Tryz.f67]) ?_;simp only[go_sem];refine Au ((Sj g sh 0 hc)) ?_;rintro h' r ⟨rfl,rfl⟩;simp only[go_sem];refine AY mixed (p:=[(0,0),(1,0),(2,0),(4,0),(6,0),(9,0),(3,1),(5,1),(7,1),(8,1),(10,2),(11,0),(12,1),(13,0)]) (by kernel_rfl) (by simp[Av,get]) ?_;have hle:((g.length:Nat):Int)≤((g.length:Nat):Int):=Int.le_refl _;have hl8:((g.length:Nat):Int)*8≤140737488355328:=by omega
 have hl1:((g.length:Nat):Int)≤140737488355328:=by omega
 simp only[go_sem,h0,hle,hl8,hl1];refine Bu ((Alp g.length hg)) ?_;rintro h' r ⟨rfl,rfl⟩;simp only[go_sem,h0];refine Ao (NB.st g sh) (NIc g sh) (fun b=>g.length - b.k) ⟨0,Wv g.length⟩ h00 ?_ ?_
 · refine (Wk.E3 (id:=30) (j:=5) (q:=40005) (sz:=1) 3 rfl rfl rfl (by decide)).trans ?_;refine (Wk.E3 (id:=30) (j:=6) (q:=40006) (sz:=1) 3 rfl rfl rfl (by decide)).trans ?_;exact (Wk.forget (by simp[Le,AG,Av,get,Aa,Ac,Ad,D.ids,Ai,AO.ids,Ae,base,NB.st,Wv,Aps]))
 rintro ⟨k,s⟩ m ⟨hk,hT,hpa,hhe,hcu,Yl⟩ ih;simp only at hk hT hpa hhe hcu Yl;unfold NB.st;cases c1:decide ((k:Int)<((g.length:Nat):Int))
 · obtain rfl:k=g.length:=by have:=of_decide_eq_false c1;omega
   have hl:=hT.l4;simp only[go_sem,c1,hl];refine Bc ?_;simp only[go_sem,c1,hl];exact ⟨s,⟨hT,hpa,hhe,Yl⟩,rfl⟩
 · have HL:k<g.length:=by simpa using of_decide_eq_true c1
   have h4:(0:Int)≤(k:Int)∧(k:Int)<((g.length:Nat):Int):=by omega
   have h5:(0:Int)≤(k:Int)∧(k:Int)<((sh.length:Nat):Int):=by omega
   have f1:=Eg sh k (by omega);have g1:=AD (nI s.seen) k (by rw[AQ,hT.l1];exact HL);rw[B1] at g1;have lse:(nI s.seen).length=g.length:=by rw[AQ,hT.l1]
   cases c2:sh.getD k false
   · rw[c2] at f1;cases c3:decide (((s.seen.getD k 0:Nat):Int)=0)
     · simp only[go_sem,c1,h4,h5,FJ,f1,g1,c3,lse];have EU:s.sn k≠0:=fun h=>by have:=of_decide_eq_false c3;unfold Sr.sn at h;omega
       refine ih ⟨k+1,s⟩ _ ⟨HL,hT,hpa,hhe,hcu,?_⟩ (by simp only;omega) ?_
       · simp only;intro x hx hxo;rcases Nat.lt_succ_iff_lt_or_eq.1 hx with h1 | rfl
         · exact Yl x h1 hxo
         · exact EU
       · rw[AZ (by omega)];exact (Wk.forget (by simp[Le,AG,Av,get,Aa,Ac,Ad,D.ids,Ai,AO.ids,Ae,base,NB.st]))
     · have EU:s.sn k=0:=by have:=of_decide_eq_true c3;unfold Sr.sn;omega
       have KS:=Amx g sh s k hg Bj FJ hT hpa hhe hcu HL c2 EU;unfold Sr.bx at KS;rw[hpa,hhe,hT.l1,hT.l2,hT.l3,hT.l4] at KS;simp only[go_sem,c1,h4,h5,FJ,f1,g1,c3,lse];refine Au KS ?_;rintro h' r ⟨⟨s',P,H,hT',hp',hh',Atu,Atg,Awi,Fv⟩,rfl⟩;have At4:∀x,x<k+1→sh.getD x false=false→s'.sn x≠0:=by
         intro x hx hxo;rcases Nat.lt_succ_iff_lt_or_eq.1 hx with h1 | rfl
         · exact Atg x (Yl x h1 hxo)
         · exact Awi
       rcases Fv with rfl | ⟨p1,p2,rfl⟩
       · simp only[go_sem];refine ih ⟨k+1,s'⟩ _ ⟨HL,hT',hp',hh',Atu,At4⟩ (by simp only;omega) ?_;rw[AZ (by omega)];exact Wk.trans (Wk.forget (by simp[Le,AG,Av,get,Aa,Ac,Ad,D.ids,Ai,AO.ids,Ae,base,])) (Ay2 g sh (k+1) s' P H)
       · simp only[go_sem];refine ih ⟨k+1,s'⟩ _ ⟨HL,hT',hp',hh',Atu,At4⟩ (by simp only;omega) ?_;rw[AZ (by omega)];exact Wk.trans (Wk.forget (by simp[Le,AG,Av,get,Aa,Ac,Ad,D.ids,Ai,AO.ids,Ae,base,])) (Aum g sh (k+1) s' P H)
   · rw[c2] at f1;simp only[go_sem,c1,h4,h5,FJ,f1,g1];refine ih ⟨k+1,s⟩ _ ⟨HL,hT,hpa,hhe,hcu,?_⟩ (by simp only;omega) ?_
     · simp only;intro x hx hxo;rcases Nat.lt_succ_iff_lt_or_eq.1 hx with h1 | rfl
       · exact Yl x h1 hxo
       · rw[c2] at hxo;cases hxo
     · rw[AZ (by omega)];exact (Wk.forget (by simp[Le,AG,Av,get,Aa,Ac,Ad,D.ids,Ai,AO.ids,Ae,base,NB.st]))
theorem Afy (n v:Nat):(List.replicate n 0:List Nat).getD v 0=0:=by
 simp only[List.getD,List.getElem?_replicate];split<;>rfl
theorem Ase (n v:Nat):(List.replicate n (-1):List Int).getD v (-1)=-1:=by
 simp only[List.getD,List.getElem?_replicate];split<;>rfl
theorem TJ.init (g:List (List Int)) (sh:List Bool) (hr:∀v k,k<(g.getD v []).length→∃w:Nat,(g.getD v []).getD k 0=(w:Int)∧w<g.length):TJ g sh Nx (Wv g.length):=by
 have sn0:∀v,(Wv g.length).sn v=0:=fun v=>Afy _ v;have ad0:∀v,(Wv g.length).ad v=0:=fun v=>Afy _ v;have nm0:∀v,(Wv g.length).nm v=-1:=fun v=>Ase _ v;have hh:(Wv g.length).held=[]:=rfl;have hp:(Wv g.length).path=[]:=rfl;refine ⟨by simp[Wv],by simp[Wv],by simp[Wv],by simp[Wv],hr,?_,?_,?_,?_,?_,?_,?_,?_,?_,?_,?_,?_,?_,?_,?_,?_,?_,?_⟩
 · intro v;rw[sn0];exact Nat.zero_le _
 · intro v w _ h;exact absurd (sn0 v) h
 · intro v h;exact absurd (sn0 v) h
 · intro v _;exact ad0 v
 · intro v;rw[ad0];exact Nat.zero_le _
 · intro v;rw[hh,sn0];simp
 · rw[hh];exact List.Pairwise.nil
 · rw[hp];intro p h;cases h
 · rw[hp];exact List.Pairwise.nil
 · intro v h;rw[nm0] at h;omega
 · intro v w h;rw[nm0] at h;omega
 · rw[hh];intro x h;cases h
 · rw[hh];intro x h;cases h
 · rw[hh];intro x h;cases h
 · rw[hp];intro p h;cases h
 · rw[hp];intro p h;cases h
 · rw[hh];intro x h;cases h
 · intro v _;exact nm0 v
theorem TJ.done {g:List (List Int)} {sh:List Bool} {s:Sr} (h:TJ g sh Nx s) (hh:s.held=[]) (ha:∀x,x<g.length→sh.getD x false=false→s.sn x≠0) (v:Nat) (hv:v<g.length):
   (sh.getD v false=false→0≤s.nm v∧Sx g sh v (s.nm v))∧(sh.getD v false=true→s.nm v=-1):=by
 constructor
 · intro ho;have h1:=ha v hv ho;have h2:0≤s.nm v:=by
     rcases Int.lt_or_le (s.nm v) 0 with h3 | h3
     · have:=(h.Lw v).2 ⟨h1,h3⟩;rw[hh] at this;cases this
     · exact h3
   exact ⟨h2,(h.nms v h2).2⟩
 · intro ho;refine h.nmx v ?_;rcases Int.lt_or_le (s.nm v) 0 with h3 | h3
   · exact h3
   · have:=(h.VT v (h.nms v h3).1).2;rw[ho] at this;cases this
theorem Afj (n:Nat):(SL n fun _=>1)=n:=by
 induction n with
 | zero=>rfl
 | succ n ih=>rw[G2,ih]
theorem Aa1 (g:List (List Int)):JP g (Wv g.length)=g.length:=by
 unfold JP;have e:∀v,(Wv g.length).sn v=0:=fun v=>Afy _ v;simp only[e,if_true];exact Afj _
theorem Aks (g:List (List Int)) (sh:List Bool) (hr:∀v k,k<(g.getD v []).length→∃w:Nat,(g.getD v []).getD k 0=(w:Int)∧w<g.length):NIc g sh ⟨0,Wv g.length⟩:=by
 refine ⟨Nat.zero_le _,TJ.init g sh hr,rfl,rfl,?_,fun x hx=>absurd hx (Nat.not_lt_zero _)⟩
 show 0+JP g (Wv g.length)=g.length
 rw[Aa1];omega
def JY (g:List (List Int)) (sh:List Bool) (l:List Int):Prop:=l.length=g.length∧∀v,v<g.length→(sh.getD v false=false→0≤l.getD v (-1)∧Sx g sh v (l.getD v (-1)))∧(sh.getD v false=true→l.getD v (-1)=-1)
theorem Ab6 (g:List (List Int)) (sh:List Bool) (Bj:∀r∈g,r.length≤2000000) (hc:Dt g sh=some 0):
   Aj Tryz.prog 67 [.p (.sl (AM g)),.p (.sl (Bf sh))] [] fun h d=>∃l,JY g sh l∧h=[(0,.arr 3 1 (Ag l))]∧d= .BA [.ref 0 0 g.length g.length,.p (.int .i64 0)]:=by
 have hr:∀v,v<g.length→(g.getD v []).length≤2000000:=fun v hv=>Bj _ (by rw[List.getD,List.getElem?_eq_getElem hv];exact List.getElem_mem hv);obtain ⟨h1,h2,h3⟩:=Aea hr hc;refine Aj.mono (Ae8 g sh h1 (fun r hm=>Nat.le_trans (Bj r hm) (by omega)) h2 hc (Aks g sh h3)) ?_;rintro h d ⟨s,⟨hT,_,hh,ha⟩,rfl,rfl⟩;exact ⟨s.names,⟨hT.l4,fun v hv=>hT.done hh ha v hv⟩,rfl,rfl⟩
theorem Ab5 (g:List (List Int)) (sh:List Bool) (e:Int) (he:e≠0) (hc:Dt g sh=some e):
   Aj Tryz.prog 67 [.p (.sl (AM g)),.p (.sl (Bf sh))] [] fun h d=>h=[]∧d= .BA [.p (.sl []),.p (.int .i64 e)]:=by
 refine Ak Tryz.func67 rfl Xp (by simp[Tryz.f67]) ?_;simp only[go_sem];refine Au ((Sj g sh e hc)) ?_;rintro h' r ⟨rfl,rfl⟩;have c1:decide (e=0)=false:=decide_eq_false he;simp only[go_sem,c1];all_goals (try refine Ah ?_)
 all_goals (try simp only[go_sem,c1])
theorem Ab2 (g:List (List Int)) (sh:List Bool) (Bj:∀r∈g,r.length≤2000000) (hc:Dt g sh=some 0):
   Aj Tryz.prog 67 [.p (.sl (AM g)),.p (.sl (Bf sh))] [] fun h d=>∃l,JY g sh l∧h=[]∧d= .BA [.p (.sl (Ag l)),.p (.int .i64 0)]:=by
 refine Aj.seal (Ab6 g sh Bj hc) ?_;rintro h d ⟨l,hl,rfl,rfl⟩;have h1:=hl.1;have h2:(Ag l).length=g.length:=by rw[Ab,h1]
 have h3:(Ag l).take g.length=Ag l:=by rw[←h2];exact List.take_length
 refine Po ?_;simp only[go_sem,h2,h3,Rs.all,No,List.map_cons,List.map_nil];exact ⟨l,hl,rfl⟩
theorem Sx.uniq {g:List (List Int)} {sh:List Bool} {v:Nat} {x y:Int} (h:Sx g sh v x) (k:Sx g sh v y):x=y:=by
 obtain ⟨a,rfl,a1,a2,a3⟩:=h;obtain ⟨b,rfl,b1,b2,b3⟩:=k;have h1:=a3 b b1 b2;have h2:=b3 a a1 a2;omega
theorem JY.uniq {g:List (List Int)} {sh:List Bool} {l m:List Int} (h:JY g sh l) (k:JY g sh m):l=m:=by
 apply List.ext_getElem (by rw[h.1,k.1]);intro v hv Qu;have hg:v<g.length:=by rw[←h.1];exact hv
 have e1:l.getD v (-1)=l[v]:=by simp[List.getD,hv]
 have e2:m.getD v (-1)=m[v]:=by simp[List.getD,Qu]
 have h1:=h.2 v hg;have h2:=k.2 v hg;rw[e1] at h1;rw[e2] at h2;cases c:sh.getD v false with
 | true=>rw[h1.2 c,h2.2 c]
 | false=>exact (h1.1 c).2.uniq (h2.1 c).2
noncomputable def E5 (g:List (List Int)) (sh:List Bool):List Int:=open Classical in if h:∃l,JY g sh l then Classical.choose h else []
theorem OP {g:List (List Int)} {sh:List Bool} {l:List Int} (h:JY g sh l):E5 g sh=l:=by
 unfold E5;rw[dif_pos ⟨l,h⟩];exact (Classical.choose_spec (⟨l,h⟩:∃l,JY g sh l)).uniq h
theorem Sx.ex {g:List (List Int)} {sh:List Bool} (v:Nat):∃x,Sx g sh v x:=by
 have key:∀n y,y≤n→Mf g sh v y→Mf g sh y v→∃x,Sx g sh v x:=by
   intro n
   induction n with
   | zero=>intro y hy h1 h2;exact ⟨(y:Int),y,rfl,h1,h2,fun z _ _=>by omega⟩
   | succ n ih=>
     intro y hy h1 h2;by_cases hz:∃z,z<y∧Mf g sh v z∧Mf g sh z v
     · obtain ⟨z,h3,h4,h5⟩:=hz;exact ih z (by omega) h4 h5
     · refine ⟨(y:Int),y,rfl,h1,h2,fun z h3 h4=>?_⟩;rcases Nat.lt_or_ge z y with h5 | h5
       · exact absurd ⟨z,h5,h3,h4⟩ hz
       · exact h5
 exact key v v (Nat.le_refl _) (.refl v) (.refl v)
theorem SO {α:Type} (f:Nat→α) (n v:Nat) (hv:v<n) (d:α):((List.range n).map f).getD v d=f v:=by simp[List.getD,hv]
theorem JY.ex (g:List (List Int)) (sh:List Bool):∃l,JY g sh l:=by
 refine ⟨(List.range g.length).map fun v=>if sh.getD v false=true then -1 else Classical.choose (Sx.ex (g:=g) (sh:=sh) v),by simp,fun v hv=>?_⟩;rw[SO _ _ _ hv];have hs:=Classical.choose_spec (Sx.ex (g:=g) (sh:=sh) v);constructor
 · intro h;rw[if_neg (by rw[h];decide)];obtain ⟨y,hy,_⟩:=id hs;exact ⟨by rw[hy];omega,hs⟩
 · intro h;rw[if_pos h]
theorem Ab4 (g:List (List Int)) (sh:List Bool):JY g sh (E5 g sh):=by
 obtain ⟨l,h⟩:=JY.ex g sh;rw[OP h];exact h
noncomputable def La (g:List (List Int)) (sh:List Bool):Option (List Int×Int):=
 if ∀r∈g,r.length≤2000000 then (Dt g sh).map fun e=>if e=0 then (E5 g sh,0) else ([],e) else none
theorem ZQ (g:List (List Int)) (sh:List Bool) (r:List Int×Int) (hr:La g sh=some r):
   Aj Tryz.prog 67 [.p (.sl (AM g)),.p (.sl (Bf sh))] [] fun h d=>h=[]∧d= .BA [.p (.sl (Ag r.1)),.p (.int .i64 r.2)]:=by
 unfold La at hr;split at hr
 case isFalse=>cases hr
 rename_i Bj;cases hc:Dt g sh with
 | none=>rw[hc] at hr;cases hr
 | some e=>
   rw[hc] at hr;simp only[Option.map_some,Option.some.injEq] at hr;subst hr;by_cases he:e=0
   · subst he;refine (Ab2 g sh Bj hc).mono ?_;rintro h d ⟨l,hl,rfl,rfl⟩;rw[if_pos rfl,OP hl];exact ⟨rfl,rfl⟩
   · rw[if_neg he];refine (Ab5 g sh e he hc).mono ?_;rintro h d ⟨rfl,rfl⟩;exact ⟨rfl,rfl⟩
theorem Auo (l:List Int) (a:Int):((Ag l).take (((l.length:Nat):Int)).toNat).drop a.toNat=Ag (l.drop a.toNat):=by
 rw[Int.toNat_natCast,JA];simp[Ag]
section
variable {P:Program} {st:St} {x:Code} {k:Kt}
theorem X9 {n l:Nat} {rest:Code} (hf:findLabel x l=some rest) (h:X P rest (.user (scQ P x k n)) st):Jm P x k (n+1) l st:=⟨st,rest,Wk.refl _,hf,h⟩
theorem s9 {σ ε γ:Type} {step:σ→Option (σ⊕ε)} {s0:σ} {e:ε} (hr:AS step s0=some e) (S:σ→γ→St) (c0:γ) (hw:Wk st (S s0 c0))
   (hs:∀s c n,(step s).bind (Fq (EH step n))=some e→(∀s' c' st',EH step n s'=some e→Wk st' (S s' c')→L P x k n st')→X P x (.lp x n k) (S s c)):X P (.loop x) k st:=by
 obtain ⟨n,hn⟩:=IC.1 hr;have key:∀n s c,EH step n s=some e→L P x k n (S s c):=by
   intro n
   induction n with
   | zero=>intro s c h;simp[EH] at h
   | succ n ih=>intro s c h;exact ⟨S s c,Wk.refl _,hs s c n h fun s' c' st' h' hw'=>Aeo hw' (ih s' c' h')⟩
 exact VM _ (Aeo hw (key n s0 c0 hn))
end
attribute [go_sem] Nat.mul_one List.length_replicate
noncomputable def LB (a0:List (List Int)) (v3:Int) (BM:List Int):Int×Int→Option ((Int×Int)⊕((Int×Int)⊕Int))
 | (v17,v18)=>cond (decide (v17<((BM.length:Nat):Int))) (Option.bind (A0 BM v17) fun Ok=>cond (decide (Ok≤v18)) (some (Sum.inr (.inr ((20:Int))))) (cond (decide (((a0.length:Nat):Int)≤Ok)) (some (Sum.inr (.inr ((20:Int))))) (cond (decide (Ok=v3)) (some (Sum.inr (.inr ((20:Int))))) (some (Sum.inl ((IntKind.i64.wrap (v17+1)),Ok)))))) (some (Sum.inr (.inl (v17,v18))))
theorem Jy (a0:List (List Int)) (v3:Int) (BM:List Int) (v17:Int) (v18:Int):LB a0 v3 BM (v17,v18)=cond (decide (v17<((BM.length:Nat):Int))) (Option.bind (A0 BM v17) fun Ok=>cond (decide (Ok≤v18)) (some (Sum.inr (.inr ((20:Int))))) (cond (decide (((a0.length:Nat):Int)≤Ok)) (some (Sum.inr (.inr ((20:Int))))) (cond (decide (Ok=v3)) (some (Sum.inr (.inr ((20:Int))))) (some (Sum.inl ((IntKind.i64.wrap (v17+1)),Ok)))))) (some (Sum.inr (.inl (v17,v18)))):=rfl
noncomputable def Pa (a0:List (List Int)):Int→Option ((Int)⊕(Int⊕Int))
 | v3=>cond (decide (v3<((a0.length:Nat):Int))) (Option.bind (A0 a0 v3) fun BM=>Option.bind (AS (LB a0 v3 BM) (0,(-1))) (fun | .inl (v32,v33)=>some (Sum.inl (IntKind.i64.wrap (v3+1))) | .inr (r34)=>some (Sum.inr (.inr (r34))))) (some (Sum.inr (.inl v3)))
theorem Jx (a0:List (List Int)) (v3:Int):Pa a0 v3=cond (decide (v3<((a0.length:Nat):Int))) (Option.bind (A0 a0 v3) fun BM=>Option.bind (AS (LB a0 v3 BM) (0,(-1))) (fun | .inl (v32,v33)=>some (Sum.inl (IntKind.i64.wrap (v3+1))) | .inr (r34)=>some (Sum.inr (.inr (r34))))) (some (Sum.inr (.inl v3))):=rfl
noncomputable def K0 (a0:List (List Int)) (a1:List Bool):Option (Int):=
 cond (decide (24<((a0.length:Nat):Int))) (some 20) (Option.bind (AS (Pa a0) 0) (fun | .inl v35=>cond (decide (((a1.length:Nat):Int)=((a0.length:Nat):Int))) (some 0) (some 19) | .inr (r37)=>some r37))
theorem ZH (a0:List (List Int)) (a1:List Bool) (r:Int) (hr:K0 a0 a1=some r):
   Aj Tryz.prog 58 [.p (.sl (AM a0)),.p (.sl (Bf a1))] [] fun h d=>h=[]∧d= .p (.int .i64 r):=by
 refine Ak Tryz.func58 rfl Aiv (by simp[Tryz.f58]) ?_;unfold K0 at hr;cases c1:decide (24<((a0.length:Nat):Int))
 · simp only[c1,cond_false] at hr;obtain ⟨e7,g8,hr⟩:=bE hr;try simp only[go_sem,c1]
   refine Bl g8 (fun q:Int=>⟨[(0,.p (.sl (AM a0))),(1,.p (.sl (Bf a1))),(13,.p (.sl (AM a0))),(14,.p (.int .i64 ((a0.length:Nat):Int))),(15,.p (.int .i64 q))],[],48⟩) ((Wk.forget (by simp[Le,AG,Av,get,Aa,Ac,Ad,D.ids,Ai,AO.ids,Ae,base,ZE]))) ?_;rintro v3 m6 EJ WW;rw[Jx] at EJ;cases c9:decide (v3<((a0.length:Nat):Int))
   · simp only[c9,cond_false] at EJ;simp only[Option.bind_some,Ar] at EJ;obtain rfl:=Option.some.inj EJ;try dsimp only at hr
     cases Iq:decide (((a1.length:Nat):Int)=((a0.length:Nat):Int))
     · simp only[Iq,cond_false] at hr;obtain rfl:=Option.some.inj hr;try simp only[go_sem,c9,Iq]
       all_goals (try refine Ah ?_)
       all_goals (try simp only[go_sem,c9,Iq])
       all_goals (try (first | rfl | exact ⟨rfl,rfl⟩ | (simp;done)))
     simp only[Iq,cond_true] at hr;obtain rfl:=Option.some.inj hr;try simp only[go_sem,c9,Iq]
     all_goals (try refine Ah ?_)
     all_goals (try simp only[go_sem,c9,Iq])
     all_goals (try (first | rfl | exact ⟨rfl,rfl⟩ | (simp;done)))
   simp only[c9,cond_true] at EJ;obtain ⟨BM,g12,EJ⟩:=bK EJ;have f13:=AA g12;have f14:(AM a0).getD (Int.toNat v3) []=[(.sl (Ag BM))]:=AB _ g12;obtain ⟨e22,g23,EJ⟩:=bK EJ;try simp only[go_sem,c9,f13,f14]
   refine Bl g23 (fun q:Int×Int=>⟨[(0,.p (.sl (AM a0))),(1,.p (.sl (Bf a1))),(5,.p (.int .i64 v3)),(7,.p (.int .i64 q.2)),(13,.p (.sl (AM a0))),(14,.p (.int .i64 ((a0.length:Nat):Int))),(15,.p (.int .i64 v3)),(20,.p (.sl (Ag BM))),(21,.p (.int .i64 ((BM.length:Nat):Int))),(22,.p (.int .i64 q.1))],[],48⟩) ((Wk.forget (by simp[Le,AG,Av,get,Aa,Ac,Ad,D.ids,Ai,AO.ids,Ae,base,ZE]))) ?_;rintro ⟨v17,v18⟩ m21 Ig Aw9;rw[Jy] at Ig;cases VE:decide (v17<((BM.length:Nat):Int))
   · simp only[VE,cond_false] at Ig;simp only[Option.bind_some,Ar] at Ig;obtain rfl:=Option.some.inj Ig;try dsimp only at EJ
     simp only[Option.bind_some,At] at EJ;try simp only[go_sem,VE]
     exact WW (IntKind.i64.wrap (v3+1)) _ EJ ((Wk.forget (by simp[Le,AG,Av,get,Aa,Ac,Ad,D.ids,Ai,AO.ids,Ae,base,ZE])))
   simp only[VE,cond_true] at Ig;obtain ⟨Ok,g26,Ig⟩:=bK Ig;have f27:=AA g26;have f28:(Ag BM).getD (Int.toNat v17) []=[(.int .i64 Ok)]:=AB _ g26;cases VY:decide (Ok≤v18)
   · simp only[VY,cond_false] at Ig;cases Sk:decide (((a0.length:Nat):Int)≤Ok)
     · simp only[Sk,cond_false] at Ig;cases Ow:decide (Ok=v3)
       · simp only[Ow,cond_false] at Ig;simp only[Option.bind_some,At] at Ig;try simp only[go_sem,VE,f27,f28,VY,Sk,Ow]
         exact Aw9 ((IntKind.i64.wrap (v17+1)),Ok) _ Ig ((Wk.forget (by simp[Le,AG,Av,get,Aa,Ac,Ad,D.ids,Ai,AO.ids,Ae,base,ZE])))
       simp only[Ow,cond_true] at Ig;simp only[Option.bind_some,Ar] at Ig;obtain rfl:=Option.some.inj Ig;try dsimp only at EJ
       simp only[Option.bind_some,Ar] at EJ;obtain rfl:=Option.some.inj EJ;try dsimp only at hr
       obtain rfl:=Option.some.inj hr;try simp only[go_sem,VE,f27,f28,VY,Sk,Ow]
       all_goals (try refine Ah ?_)
       all_goals (try simp only[go_sem,VE,f27,f28,VY,Sk,Ow])
       all_goals (try (first | rfl | exact ⟨rfl,rfl⟩ | (simp;done)))
     simp only[Sk,cond_true] at Ig;simp only[Option.bind_some,Ar] at Ig;obtain rfl:=Option.some.inj Ig;try dsimp only at EJ
     simp only[Option.bind_some,Ar] at EJ;obtain rfl:=Option.some.inj EJ;try dsimp only at hr
     obtain rfl:=Option.some.inj hr;try simp only[go_sem,VE,f27,f28,VY,Sk]
     all_goals (try refine Ah ?_)
     all_goals (try simp only[go_sem,VE,f27,f28,VY,Sk])
     all_goals (try (first | rfl | exact ⟨rfl,rfl⟩ | (simp;done)))
   simp only[VY,cond_true] at Ig;simp only[Option.bind_some,Ar] at Ig;obtain rfl:=Option.some.inj Ig;try dsimp only at EJ
   simp only[Option.bind_some,Ar] at EJ;obtain rfl:=Option.some.inj EJ;try dsimp only at hr
   obtain rfl:=Option.some.inj hr;try simp only[go_sem,VE,f27,f28,VY]
   all_goals (try refine Ah ?_)
   all_goals (try simp only[go_sem,VE,f27,f28,VY])
   all_goals (try (first | rfl | exact ⟨rfl,rfl⟩ | (simp;done)))
 simp only[c1,cond_true] at hr;obtain rfl:=Option.some.inj hr;try simp only[go_sem,c1]
 all_goals (try refine Ah ?_)
 all_goals (try simp only[go_sem,c1])
 all_goals (try (first | rfl | exact ⟨rfl,rfl⟩ | (simp;done)))
noncomputable def KZ (Pt:Int) (ER:Int) (VQ:List Int):(List Int)×Int×(List Int)→Option (((List Int)×Int×(List Int))⊕(((List Int)×Int×(List Int))))
 | (QK,v75,v76)=>cond (decide (v75<((VQ.length:Nat):Int))) (Option.bind (A0 VQ v75) fun x84=>cond (decide (x84=Pt)) (Option.bind (A0 QK Pt) fun x89=>Option.bind (A0 QK ER) fun x93=>cond (decide (v76.length+1<10000000)) (some (Sum.inl ((QK.set (Int.toNat ER) (IntKind.i64.wrap (x89+1))),(IntKind.i64.wrap (v75+1)),(v76++[ER])))) none) (some (Sum.inl (QK,(IntKind.i64.wrap (v75+1)),v76)))) (some (Sum.inr (QK,v75,v76)))
theorem DG (Pt:Int) (ER:Int) (VQ:List Int) (QK:List Int) (v75:Int) (v76:List Int):KZ Pt ER VQ (QK,v75,v76)=cond (decide (v75<((VQ.length:Nat):Int))) (Option.bind (A0 VQ v75) fun x84=>cond (decide (x84=Pt)) (Option.bind (A0 QK Pt) fun x89=>Option.bind (A0 QK ER) fun x93=>cond (decide (v76.length+1<10000000)) (some (Sum.inl ((QK.set (Int.toNat ER) (IntKind.i64.wrap (x89+1))),(IntKind.i64.wrap (v75+1)),(v76++[ER])))) none) (some (Sum.inl (QK,(IntKind.i64.wrap (v75+1)),v76)))) (some (Sum.inr (QK,v75,v76))):=rfl
noncomputable def IM (a0:List (List Int)) (a1:List Bool) (Pt:Int):(List Int)×Int×(List Int)→Option (((List Int)×Int×(List Int))⊕(((List Int)×Int×(List Int))))
 | (v41,ER,v44)=>cond (decide (ER<((a0.length:Nat):Int))) (Option.bind (A0 a0 ER) fun VQ=>Option.bind (A0 v41 ER) fun x56=>cond (decide (0≤x56)) (some (Sum.inl (v41,(IntKind.i64.wrap (ER+1)),v44))) (Option.bind (A0 a1 ER) fun x61=>cond x61 (some (Sum.inl (v41,(IntKind.i64.wrap (ER+1)),v44))) (Option.bind (AS (KZ Pt ER VQ) (v41,0,v44)) (fun (Apa,Ave,Ap9)=>some (Sum.inl (Apa,(IntKind.i64.wrap (ER+1)),Ap9)))))) (some (Sum.inr (v41,ER,v44)))
theorem PV (a0:List (List Int)) (a1:List Bool) (Pt:Int) (v41:List Int) (ER:Int) (v44:List Int):IM a0 a1 Pt (v41,ER,v44)=cond (decide (ER<((a0.length:Nat):Int))) (Option.bind (A0 a0 ER) fun VQ=>Option.bind (A0 v41 ER) fun x56=>cond (decide (0≤x56)) (some (Sum.inl (v41,(IntKind.i64.wrap (ER+1)),v44))) (Option.bind (A0 a1 ER) fun x61=>cond x61 (some (Sum.inl (v41,(IntKind.i64.wrap (ER+1)),v44))) (Option.bind (AS (KZ Pt ER VQ) (v41,0,v44)) (fun (Apa,Ave,Ap9)=>some (Sum.inl (Apa,(IntKind.i64.wrap (ER+1)),Ap9)))))) (some (Sum.inr (v41,ER,v44))):=rfl
noncomputable def NY (a0:List (List Int)) (a1:List Bool):(List Int)×(List Int)→Option (((List Int)×(List Int))⊕(((List Int)×(List Int))))
 | (j5,v20)=>cond (decide (0<((v20.length:Nat):Int))) (Option.bind (A0 v20 0) fun Pt=>cond (decide (0≤1∧1≤((v20.length:Nat):Int)∧((v20.length:Nat):Int)≤((v20.length:Nat):Int))) (Option.bind (AS (IM a0 a1 Pt) (j5,0,(v20.drop 1))) (fun (Ap6,Avd,v164)=>some (Sum.inl (Ap6,v164)))) none) (some (Sum.inr (j5,v20)))
theorem PU (a0:List (List Int)) (a1:List Bool) (j5:List Int) (v20:List Int):NY a0 a1 (j5,v20)=cond (decide (0<((v20.length:Nat):Int))) (Option.bind (A0 v20 0) fun Pt=>cond (decide (0≤1∧1≤((v20.length:Nat):Int)∧((v20.length:Nat):Int)≤((v20.length:Nat):Int))) (Option.bind (AS (IM a0 a1 Pt) (j5,0,(v20.drop 1))) (fun (Ap6,Avd,v164)=>some (Sum.inl (Ap6,v164)))) none) (some (Sum.inr (j5,v20))):=rfl
noncomputable def NW (a0:List (List Int)):(List Int)×Int→Option (((List Int)×Int)⊕(((List Int)×Int)))
 | (v4,v5)=>cond (decide (v5<((a0.length:Nat):Int))) (Option.bind (A0 v4 v5) fun Aoy=>some (Sum.inl ((v4.set (Int.toNat v5) (-1)),(IntKind.i64.wrap (v5+1))))) (some (Sum.inr (v4,v5)))
theorem KY (a0:List (List Int)) (v4:List Int) (v5:Int):NW a0 (v4,v5)=cond (decide (v5<((a0.length:Nat):Int))) (Option.bind (A0 v4 v5) fun Aoy=>some (Sum.inl ((v4.set (Int.toNat v5) (-1)),(IntKind.i64.wrap (v5+1))))) (some (Sum.inr (v4,v5))):=rfl
noncomputable def NV (a0:List (List Int)) (a1:List Bool) (a2:Int):Option ((List Int)):=
 cond (decide (a0.length<10000000)) (Option.bind (AS (NW a0) ((List.replicate a0.length 0),0)) (fun (v171,v172)=>Option.bind (A0 v171 a2) fun x173=>Option.bind (AS (NY a0 a1) ((v171.set (Int.toNat a2) 0),[a2])) (fun (Ava,v327)=>some Ava))) none
theorem Ac2 (a0:List (List Int)) (a1:List Bool) (a2:Int) (r:(List Int)) (hr:NV a0 a1 a2=some r):
   Aj Tryz.prog 103 [.p (.sl (AM a0)),.p (.sl (Bf a1)),.p (.int .i64 a2)] [] fun h d=>h=[]∧d= .p (.sl (Ag r)):=by
 refine Ak Tryz.func103 rfl Adm (by simp[Tryz.f103]) ?_;unfold NV at hr;obtain ⟨c1,hr⟩:=gE hr;try simp only[go_sem]
 refine ⟨by have:=of_decide_eq_true c1;omega,?_⟩;obtain ⟨e9,g10,hr⟩:=bE hr;try simp only[go_sem]
 refine Bl g10 (fun q:(List Int)×Int=>⟨[(0,.p (.sl (AM a0))),(1,.p (.sl (Bf a1))),(2,.p (.int .i64 a2)),(7,.ref 17 0 q.1.length q.1.length),(19,.p (.int .i64 ((a0.length:Nat):Int))),(20,.p (.int .i64 q.2))],[(17,.arr 3 1 (Ag q.1))],86⟩) ((Wk.forget (by simp[Le,AG,Av,get,Aa,Ac,Ad,D.ids,Ai,AO.ids,Ae,base,ZE]))) ?_;rintro ⟨v4,v5⟩ m8 hh6 ih7;rw[KY] at hh6;cases c11:decide (v5<((a0.length:Nat):Int))
 · simp only[c11,cond_false] at hh6;simp only[Option.bind_some,Ar] at hh6;obtain rfl:=Option.some.inj hh6;try dsimp only at hr
   obtain ⟨Yz,g13,hr⟩:=bE hr;have f14:=AA g13;have f15:(Ag v4).getD (Int.toNat a2) []=[(.int .i64 Yz)]:=AB _ g13;obtain ⟨e24,g25,hr⟩:=bE hr;try simp only[go_sem,c11,f14,f15]
   refine Bl g25 (fun q:(List Int)×(List Int)=>⟨[(0,.p (.sl (AM a0))),(1,.p (.sl (Bf a1))),(7,.ref 17 0 q.1.length q.1.length),(9,.p (.sl (Ag q.2)))],[(17,.arr 3 1 (Ag q.1))],86⟩) ((Wk.pure (t:=9) (id:=31) (sz:=1) (e:=3) (es:=Ag [a2]) (by simp[get,ZE]) (by simp[get,ZE])).trans ((Wk.forget (by simp[Le,AG,Av,get,Aa,Ac,Ad,D.ids,Ai,AO.ids,Ae,base,ZE])))) ?_;rintro ⟨j5,v20⟩ m23 KR Aso;rw[PU] at KR;cases c26:decide (0<((v20.length:Nat):Int))
   · simp only[c26,cond_false] at KR;simp only[Option.bind_some,Ar] at KR;obtain rfl:=Option.some.inj KR;try dsimp only at hr
     obtain rfl:=Option.some.inj hr;try simp only[go_sem,c26]
     all_goals (try refine Ah ?_)
     all_goals (try simp only[go_sem,c26])
     all_goals (try (first | rfl | exact ⟨rfl,rfl⟩ | (simp;done)))
   simp only[c26,cond_true] at KR;obtain ⟨Pt,g28,KR⟩:=bK KR;have f29:=AA g28;have f30:(Ag v20).getD 0 []=[(.int .i64 Pt)]:=AB _ g28;obtain ⟨Ow,KR⟩:=gK KR;have f32:=of_decide_eq_true Ow;have f33:=Auo v20 1;obtain ⟨e48,g49,KR⟩:=bK KR;try simp only[go_sem,c26,f29,f30,f32,f33,eq_self,Gb v20]
   refine s9 g49 (fun (q:(List Int)×Int×(List Int)) (c:Bool)=>⟨[(0,.p (.sl (AM a0))),(1,.p (.sl (Bf a1))),(7,.ref 17 0 q.1.length q.1.length),(9,match c with | true=> .cz (Ag q.2.2) | false=> .ref 82 0 q.2.2.length q.2.2.length),(10,.p (.int .i64 Pt)),(44,.p (.sl (AM a0))),(45,.p (.int .i64 ((a0.length:Nat):Int))),(46,.p (.int .i64 q.2.1))],(match c with | true=>[] | false=>[(82,.arr 3 1 (Ag q.2.2))])++[(17,.arr 3 1 (Ag q.1))],86⟩) true ((Wk.forget (by simp[Le,AG,Av,get,Aa,Ac,Ad,D.ids,Ai,AO.ids,Ae,base,ZE]))) ?_;rintro ⟨v41,ER,v44⟩ Ay4 m47 Cs Zl;rw[PV] at Cs;rcases Ay4 with _ | _
   · cases Aef:decide (ER<((a0.length:Nat):Int))
     · simp only[Aef,cond_false] at Cs;simp only[Option.bind_some,Ar] at Cs;obtain rfl:=Option.some.inj Cs;try dsimp only at KR
       simp only[Option.bind_some,At] at KR;try simp only[go_sem,Aef]
       exact Aso (v41,v44) _ KR ((Wk.pure (t:=9) (id:=82) (sz:=1) (e:=3) (es:=Ag v44) (by simp[get,ZE]) (by simp[get,ZE])).trans ((Wk.forget (by simp[Le,AG,Av,get,Aa,Ac,Ad,D.ids,Ai,AO.ids,Ae,base,ZE]))))
     simp only[Aef,cond_true] at Cs;obtain ⟨Af3,Auc,Cs⟩:=bK Cs;have f120:=AA Auc;have f121:(AM a0).getD (Int.toNat ER) []=[(.sl (Ag Af3))]:=AB _ Auc;obtain ⟨As2,Aua,Cs⟩:=bK Cs;have f124:=AA Aua;have f125:(Ag v41).getD (Int.toNat ER) []=[(.int .i64 As2)]:=AB _ Aua;cases Ake:decide (0≤As2)
     · simp only[Ake,cond_false] at Cs;obtain ⟨As1,Au9,Cs⟩:=bK Cs;have f129:=AA Au9;have f130:(Bf a1).getD (Int.toNat ER) []=[(.bool As1)]:=AB _ Au9;cases VI:As1
       · simp only[VI,cond_false] at Cs;obtain ⟨e141,Amv,Cs⟩:=bK Cs;try simp only[go_sem,Aef,f120,f121,f124,f125,Ake,f129,f130,VI]
         refine Bl Amv (fun q:(List Int)×Int×(List Int)=>⟨[(0,.p (.sl (AM a0))),(1,.p (.sl (Bf a1))),(7,.ref 17 0 q.1.length q.1.length),(9,.ref 82 0 q.2.2.length q.2.2.length),(10,.p (.int .i64 Pt)),(11,.p (.int .i64 ER)),(44,.p (.sl (AM a0))),(45,.p (.int .i64 ((a0.length:Nat):Int))),(46,.p (.int .i64 ER)),(62,.p (.sl (Ag Af3))),(63,.p (.int .i64 ((Af3.length:Nat):Int))),(64,.p (.int .i64 q.2.1))],[(17,.arr 3 1 (Ag q.1)),(82,.arr 3 1 (Ag q.2.2))],86⟩) ((Wk.forget (by simp[Le,AG,Av,get,Aa,Ac,Ad,D.ids,Ai,AO.ids,Ae,base,ZE,VI]))) ?_;rintro ⟨Af9,Alc,Ap8⟩ m140 Fb Aoi;rw[DG] at Fb;cases Akd:decide (Alc<((Af3.length:Nat):Int))
         · simp only[Akd,cond_false] at Fb;simp only[Option.bind_some,Ar] at Fb;obtain rfl:=Option.some.inj Fb;try dsimp only at Cs
           simp only[Option.bind_some,At] at Cs;try simp only[go_sem,Akd]
           exact Zl (Af9,(IntKind.i64.wrap (ER+1)),Ap8) false _ Cs ((Wk.forget (by simp[Le,AG,Av,get,Aa,Ac,Ad,D.ids,Ai,AO.ids,Ae,base,ZE,VI])))
         simp only[Akd,cond_true] at Fb;obtain ⟨As0,Au6,Fb⟩:=bK Fb;have f146:=AA Au6;have f147:(Ag Af3).getD (Int.toNat Alc) []=[(.int .i64 As0)]:=AB _ Au6;cases Anb:decide (As0=Pt)
         · simp only[Anb,cond_false] at Fb;simp only[Option.bind_some,At] at Fb;try simp only[go_sem,Akd,f146,f147,Anb]
           exact Aoi (Af9,(IntKind.i64.wrap (Alc+1)),Ap8) _ Fb ((Wk.forget (by simp[Le,AG,Av,get,Aa,Ac,Ad,D.ids,Ai,AO.ids,Ae,base,ZE,VI])))
         simp only[Anb,cond_true] at Fb;obtain ⟨Arz,Au4,Fb⟩:=bK Fb;have f151:=AA Au4;have f152:(Ag Af9).getD (Int.toNat Pt) []=[(.int .i64 Arz)]:=AB _ Au4;obtain ⟨Yy,Amu,Fb⟩:=bK Fb;have f155:=AA Amu;have f156:(Ag Af9).getD (Int.toNat ER) []=[(.int .i64 Yy)]:=AB _ Amu;obtain ⟨Ay5,Fb⟩:=gK Fb;try simp only[go_sem,Akd,f146,f147,Anb,f151,f152,f155,f156]
         refine ⟨by have:=of_decide_eq_true Ay5;(try simp only[List.length_cons,List.length_nil,List.length_append] at*);(repeat' refine And.intro ?_ ?_)<;>first | exact Cf _ _ rfl | exact Gb _ | omega | (simp[I1];done),?_⟩;simp only[Option.bind_some,At] at Fb;try simp only[go_sem]
         exact Aoi ((Af9.set (Int.toNat ER) (IntKind.i64.wrap (Arz+1))),(IntKind.i64.wrap (Alc+1)),(Ap8++[ER])) _ Fb ((Wk.forget (by simp[Le,AG,Av,get,Aa,Ac,Ad,D.ids,Ai,AO.ids,Ae,base,ZE,VI])))
       simp only[VI,cond_true] at Cs;simp only[Option.bind_some,At] at Cs;try simp only[go_sem,Aef,f120,f121,f124,f125,Ake,f129,f130,VI]
       exact Zl (v41,(IntKind.i64.wrap (ER+1)),v44) false _ Cs ((Wk.forget (by simp[Le,AG,Av,get,Aa,Ac,Ad,D.ids,Ai,AO.ids,Ae,base,ZE,VI])))
     simp only[Ake,cond_true] at Cs;simp only[Option.bind_some,At] at Cs;try simp only[go_sem,Aef,f120,f121,f124,f125,Ake]
     exact Zl (v41,(IntKind.i64.wrap (ER+1)),v44) false _ Cs ((Wk.forget (by simp[Le,AG,Av,get,Aa,Ac,Ad,D.ids,Ai,AO.ids,Ae,base,ZE])))
   · cases c51:decide (ER<((a0.length:Nat):Int))
     · simp only[c51,cond_false] at Cs;simp only[Option.bind_some,Ar] at Cs;obtain rfl:=Option.some.inj Cs;try dsimp only at KR
       simp only[Option.bind_some,At] at KR;try simp only[go_sem,c51]
       exact Aso (v41,v44) _ KR ((Wk.Ar0 (t:=9) rfl).trans ((Wk.forget (by simp[Le,AG,Av,get,Aa,Ac,Ad,D.ids,Ai,AO.ids,Ae,base,ZE]))))
     simp only[c51,cond_true] at Cs;obtain ⟨VQ,g53,Cs⟩:=bK Cs;have f54:=AA g53;have f55:(AM a0).getD (Int.toNat ER) []=[(.sl (Ag VQ))]:=AB _ g53;obtain ⟨x56,g57,Cs⟩:=bK Cs;have f58:=AA g57;have f59:(Ag v41).getD (Int.toNat ER) []=[(.int .i64 x56)]:=AB _ g57;cases c60:decide (0≤x56)
     · simp only[c60,cond_false] at Cs;obtain ⟨x61,g62,Cs⟩:=bK Cs;have f63:=AA g62;have f64:(Bf a1).getD (Int.toNat ER) []=[(.bool x61)]:=AB _ g62;cases c65:x61
       · simp only[c65,cond_false] at Cs;obtain ⟨e80,g81,Cs⟩:=bK Cs;try simp only[go_sem,c51,f54,f55,f58,f59,c60,f63,f64,c65]
         refine s9 g81 (fun (q:(List Int)×Int×(List Int)) (c:Bool)=>⟨[(0,.p (.sl (AM a0))),(1,.p (.sl (Bf a1))),(7,.ref 17 0 q.1.length q.1.length),(9,match c with | true=> .cz (Ag q.2.2) | false=> .ref 82 0 q.2.2.length q.2.2.length),(10,.p (.int .i64 Pt)),(11,.p (.int .i64 ER)),(44,.p (.sl (AM a0))),(45,.p (.int .i64 ((a0.length:Nat):Int))),(46,.p (.int .i64 ER)),(62,.p (.sl (Ag VQ))),(63,.p (.int .i64 ((VQ.length:Nat):Int))),(64,.p (.int .i64 q.2.1))],(match c with | true=>[] | false=>[(82,.arr 3 1 (Ag q.2.2))])++[(17,.arr 3 1 (Ag q.1))],86⟩) true ((Wk.forget (by simp[Le,AG,Av,get,Aa,Ac,Ad,D.ids,Ai,AO.ids,Ae,base,ZE,c65]))) ?_;rintro ⟨QK,v75,v76⟩ Ay3 m79 DA Amc;rw[DG] at DA;rcases Ay3 with _ | _
         · cases c98:decide (v75<((VQ.length:Nat):Int))
           · simp only[c98,cond_false] at DA;simp only[Option.bind_some,Ar] at DA;obtain rfl:=Option.some.inj DA;try dsimp only at Cs
             simp only[Option.bind_some,At] at Cs;try simp only[go_sem,c98]
             exact Zl (QK,(IntKind.i64.wrap (ER+1)),v76) false _ Cs ((Wk.forget (by simp[Le,AG,Av,get,Aa,Ac,Ad,D.ids,Ai,AO.ids,Ae,base,ZE,c65])))
           simp only[c98,cond_true] at DA;obtain ⟨x99,Auf,DA⟩:=bK DA;have f101:=AA Auf;have f102:(Ag VQ).getD (Int.toNat v75) []=[(.int .i64 x99)]:=AB _ Auf;cases Ane:decide (x99=Pt)
           · simp only[Ane,cond_false] at DA;simp only[Option.bind_some,At] at DA;try simp only[go_sem,c98,f101,f102,Ane]
             exact Amc (QK,(IntKind.i64.wrap (v75+1)),v76) false _ DA ((Wk.forget (by simp[Le,AG,Av,get,Aa,Ac,Ad,D.ids,Ai,AO.ids,Ae,base,ZE,c65])))
           simp only[Ane,cond_true] at DA;obtain ⟨As3,Aue,DA⟩:=bK DA;have f106:=AA Aue;have f107:(Ag QK).getD (Int.toNat Pt) []=[(.int .i64 As3)]:=AB _ Aue;obtain ⟨Av4,Aud,DA⟩:=bK DA;have f110:=AA Aud;have f111:(Ag QK).getD (Int.toNat ER) []=[(.int .i64 Av4)]:=AB _ Aud;obtain ⟨Ay6,DA⟩:=gK DA;try simp only[go_sem,c98,f101,f102,Ane,f106,f107,f110,f111]
           refine ⟨by have:=of_decide_eq_true Ay6;(try simp only[List.length_cons,List.length_nil,List.length_append] at*);(repeat' refine And.intro ?_ ?_)<;>first | exact Cf _ _ rfl | exact Gb _ | omega | (simp[I1];done),?_⟩;simp only[Option.bind_some,At] at DA;try simp only[go_sem]
           exact Amc ((QK.set (Int.toNat ER) (IntKind.i64.wrap (As3+1))),(IntKind.i64.wrap (v75+1)),(v76++[ER])) false _ DA ((Wk.forget (by simp[Le,AG,Av,get,Aa,Ac,Ad,D.ids,Ai,AO.ids,Ae,base,ZE,c65])))
         · cases Uv:decide (v75<((VQ.length:Nat):Int))
           · simp only[Uv,cond_false] at DA;simp only[Option.bind_some,Ar] at DA;obtain rfl:=Option.some.inj DA;try dsimp only at Cs
             simp only[Option.bind_some,At] at Cs;try simp only[go_sem,Uv]
             exact Zl (QK,(IntKind.i64.wrap (ER+1)),v76) true _ Cs ((Wk.forget (by simp[Le,AG,Av,get,Aa,Ac,Ad,D.ids,Ai,AO.ids,Ae,base,ZE,c65])))
           simp only[Uv,cond_true] at DA;obtain ⟨x84,g85,DA⟩:=bK DA;have f86:=AA g85;have f87:(Ag VQ).getD (Int.toNat v75) []=[(.int .i64 x84)]:=AB _ g85;cases c88:decide (x84=Pt)
           · simp only[c88,cond_false] at DA;simp only[Option.bind_some,At] at DA;try simp only[go_sem,Uv,f86,f87,c88]
             exact Amc (QK,(IntKind.i64.wrap (v75+1)),v76) true _ DA ((Wk.forget (by simp[Le,AG,Av,get,Aa,Ac,Ad,D.ids,Ai,AO.ids,Ae,base,ZE,c65])))
           simp only[c88,cond_true] at DA;obtain ⟨x89,g90,DA⟩:=bK DA;have f91:=AA g90;have f92:(Ag QK).getD (Int.toNat Pt) []=[(.int .i64 x89)]:=AB _ g90;obtain ⟨x93,g94,DA⟩:=bK DA;have f95:=AA g94;have f96:(Ag QK).getD (Int.toNat ER) []=[(.int .i64 x93)]:=AB _ g94;obtain ⟨c97,DA⟩:=gK DA;try simp only[go_sem,Uv,f86,f87,c88,f91,f92,f95,f96]
           refine ⟨by have:=of_decide_eq_true c97;(try simp only[List.length_cons,List.length_nil,List.length_append] at*);(repeat' refine And.intro ?_ ?_)<;>first | exact Cf _ _ rfl | exact Gb _ | omega | (simp[I1];done),?_⟩;simp only[Option.bind_some,At] at DA;try simp only[go_sem]
           exact Amc ((QK.set (Int.toNat ER) (IntKind.i64.wrap (x89+1))),(IntKind.i64.wrap (v75+1)),(v76++[ER])) false _ DA ((Wk.forget (by simp[Le,AG,Av,get,Aa,Ac,Ad,D.ids,Ai,AO.ids,Ae,base,ZE,c65])))
       simp only[c65,cond_true] at Cs;simp only[Option.bind_some,At] at Cs;try simp only[go_sem,c51,f54,f55,f58,f59,c60,f63,f64,c65]
       exact Zl (v41,(IntKind.i64.wrap (ER+1)),v44) true _ Cs ((Wk.forget (by simp[Le,AG,Av,get,Aa,Ac,Ad,D.ids,Ai,AO.ids,Ae,base,ZE,c65])))
     simp only[c60,cond_true] at Cs;simp only[Option.bind_some,At] at Cs;try simp only[go_sem,c51,f54,f55,f58,f59,c60]
     exact Zl (v41,(IntKind.i64.wrap (ER+1)),v44) true _ Cs ((Wk.forget (by simp[Le,AG,Av,get,Aa,Ac,Ad,D.ids,Ai,AO.ids,Ae,base,ZE])))
 simp only[c11,cond_true] at hh6;obtain ⟨Aoy,Au2,hh6⟩:=bK hh6;have f169:=AA Au2;have f170:(Ag v4).getD (Int.toNat v5) []=[(.int .i64 Aoy)]:=AB _ Au2;simp only[Option.bind_some,At] at hh6;try simp only[go_sem,c11,f169,f170]
 exact ih7 ((v4.set (Int.toNat v5) (-1)),(IntKind.i64.wrap (v5+1))) _ hh6 ((Wk.forget (by simp[Le,AG,Av,get,Aa,Ac,Ad,D.ids,Ai,AO.ids,Ae,base,ZE])))
noncomputable def KW (x6:List Int) (Nc:List Int):Int×Int→Option ((Int×Int)⊕((Int×Int)))
 | (v23,v24)=>cond (decide (v24<((Nc.length:Nat):Int))) (Option.bind (A0 Nc v24) fun x34=>Option.bind (A0 x6 x34) fun Yh=>cond (decide (0≤Yh)) (cond (decide (v23<0)) (some (Sum.inl (x34,(IntKind.i64.wrap (v24+1))))) (Option.bind (A0 x6 v23) fun x44=>cond (decide (Yh<x44)) (some (Sum.inl (x34,(IntKind.i64.wrap (v24+1))))) (some (Sum.inl (v23,(IntKind.i64.wrap (v24+1))))))) (some (Sum.inl (v23,(IntKind.i64.wrap (v24+1)))))) (some (Sum.inr (v23,v24)))
theorem KV (x6:List Int) (Nc:List Int) (v23:Int) (v24:Int):KW x6 Nc (v23,v24)=cond (decide (v24<((Nc.length:Nat):Int))) (Option.bind (A0 Nc v24) fun x34=>Option.bind (A0 x6 x34) fun Yh=>cond (decide (0≤Yh)) (cond (decide (v23<0)) (some (Sum.inl (x34,(IntKind.i64.wrap (v24+1))))) (Option.bind (A0 x6 v23) fun x44=>cond (decide (Yh<x44)) (some (Sum.inl (x34,(IntKind.i64.wrap (v24+1))))) (some (Sum.inl (v23,(IntKind.i64.wrap (v24+1))))))) (some (Sum.inl (v23,(IntKind.i64.wrap (v24+1)))))) (some (Sum.inr (v23,v24))):=rfl
noncomputable def RJ (a0:List (List Int)) (a2:Int) (x6:List Int):(List Int)×Int→Option (((List Int)×Int)⊕((List Int)))
 | (v10,v11)=>Option.bind (A0 a0 v11) fun Nc=>Option.bind (AS (KW x6 Nc) ((-1),0)) (fun (v49,v50)=>cond (decide (v49<0)) (some (Sum.inr ([]:(List Int)))) (cond (decide (v49=a2)) (some (Sum.inr (v10:(List Int)))) (cond (decide (v10.length+1<10000000)) (some (Sum.inl ((v10++[v49]),v49))) none)))
theorem KU (a0:List (List Int)) (a2:Int) (x6:List Int) (v10:List Int) (v11:Int):RJ a0 a2 x6 (v10,v11)=Option.bind (A0 a0 v11) fun Nc=>Option.bind (AS (KW x6 Nc) ((-1),0)) (fun (v49,v50)=>cond (decide (v49<0)) (some (Sum.inr ([]:(List Int)))) (cond (decide (v49=a2)) (some (Sum.inr (v10:(List Int)))) (cond (decide (v10.length+1<10000000)) (some (Sum.inl ((v10++[v49]),v49))) none))):=rfl
noncomputable def Lz (a0:List (List Int)) (a1:List Bool) (a2:Int):Option ((List Int)):=
 Option.bind (A0 a1 a2) fun x1=>cond x1 (some []) (Option.bind (NV a0 a1 a2) fun x6=>Option.bind (AS (RJ a0 a2 x6) ([a2],a2)) (fun r54=>some r54))
theorem T4 (a0:List (List Int)) (a1:List Bool) (a2:Int) (r:(List Int)) (hr:Lz a0 a1 a2=some r):
   Aj Tryz.prog 59 [.p (.sl (AM a0)),.p (.sl (Bf a1)),.p (.int .i64 a2)] [] fun h d=>h=[]∧d= .p (.sl (Ag r)):=by
 refine Ak Tryz.func59 rfl Aiu (by simp[Tryz.f59]) ?_;unfold Lz at hr;obtain ⟨x1,g2,hr⟩:=bE hr;have f3:=AA g2;have f4:(Bf a1).getD (Int.toNat a2) []=[(.bool x1)]:=AB _ g2;cases c5:x1
 · simp only[c5,cond_false] at hr;obtain ⟨x6,g7,hr⟩:=bE hr;try simp only[go_sem,f3,f4,c5]
   refine Au (Ac2 a0 a1 a2 _ g7) ?_;rintro h' r ⟨rfl,rfl⟩;obtain ⟨e15,g16,hr⟩:=bE hr;try simp only[go_sem]
   refine Bl g16 (fun q:(List Int)×Int=>⟨[(0,.p (.sl (AM a0))),(2,.p (.int .i64 a2)),(7,.p (.sl (Ag x6))),(8,.ref 22 0 q.1.length q.1.length),(9,.p (.int .i64 q.2))],[(22,.arr 3 1 (Ag q.1))],68⟩) ((Wk.forget (by simp[Le,AG,Av,get,Aa,Ac,Ad,D.ids,Ai,AO.ids,Ae,base,ZE,c5]))) ?_;rintro ⟨v10,v11⟩ m14 CK Abo;rw[KU] at CK;obtain ⟨Nc,g18,CK⟩:=bK CK;have f19:=AA g18;have f20:(AM a0).getD (Int.toNat v11) []=[(.sl (Ag Nc))]:=AB _ g18;obtain ⟨e28,g29,CK⟩:=bK CK;try simp only[go_sem,f19,f20]
   refine Bl g29 (fun q:Int×Int=>⟨[(0,.p (.sl (AM a0))),(2,.p (.int .i64 a2)),(7,.p (.sl (Ag x6))),(8,.ref 22 0 v10.length v10.length),(10,.p (.int .i64 q.1)),(27,.p (.sl (Ag Nc))),(28,.p (.int .i64 ((Nc.length:Nat):Int))),(29,.p (.int .i64 q.2))],[(22,.arr 3 1 (Ag v10))],68⟩) ((Wk.forget (by simp[Le,AG,Av,get,Aa,Ac,Ad,D.ids,Ai,AO.ids,Ae,base,ZE,c5]))) ?_;rintro ⟨v23,v24⟩ m27 GC Ame;rw[KV] at GC;cases Sk:decide (v24<((Nc.length:Nat):Int))
   · simp only[Sk,cond_false] at GC;simp only[Option.bind_some,Ar] at GC;obtain rfl:=Option.some.inj GC;try dsimp only at CK
     cases Ow:decide (v23<0)
     · simp only[Ow,cond_false] at CK;cases c32:decide (v23=a2)
       · simp only[c32,cond_false] at CK;obtain ⟨c33,CK⟩:=gK CK;try simp only[go_sem,Sk,Ow,c32]
         refine ⟨by have:=of_decide_eq_true c33;(try simp only[List.length_cons,List.length_nil,List.length_append] at*);(repeat' refine And.intro ?_ ?_)<;>first | exact Cf _ _ rfl | exact Gb _ | omega | (simp[I1];done),?_⟩;simp only[Option.bind_some,At] at CK;try simp only[go_sem]
         exact Abo ((v10++[v23]),v23) _ CK ((Wk.forget (by simp[Le,AG,Av,get,Aa,Ac,Ad,D.ids,Ai,AO.ids,Ae,base,ZE,c5])))
       simp only[c32,cond_true] at CK;simp only[Option.bind_some,Ar] at CK;obtain rfl:=Option.some.inj CK;try dsimp only at hr
       obtain rfl:=Option.some.inj hr;try simp only[go_sem,Sk,Ow,c32]
       all_goals (try refine Ah ?_)
       all_goals (try simp only[go_sem,Sk,Ow,c32])
       all_goals (try (first | rfl | exact ⟨rfl,rfl⟩ | (simp;done)))
     simp only[Ow,cond_true] at CK;simp only[Option.bind_some,Ar] at CK;obtain rfl:=Option.some.inj CK;try dsimp only at hr
     obtain rfl:=Option.some.inj hr;try simp only[go_sem,Sk,Ow]
     all_goals (try refine Ah ?_)
     all_goals (try simp only[go_sem,Sk,Ow])
     all_goals (try (first | rfl | exact ⟨rfl,rfl⟩ | (simp;done)))
   simp only[Sk,cond_true] at GC;obtain ⟨x34,g35,GC⟩:=bK GC;have f36:=AA g35;have f37:(Ag Nc).getD (Int.toNat v24) []=[(.int .i64 x34)]:=AB _ g35;try simp only[go_sem,Sk,f36,f37]
   refine AY mixed (p:=[(0,0),(1,0),(2,0),(3,0),(4,0),(5,0),(6,0),(7,0),(8,0),(9,0),(10,0),(11,0),(12,0),(13,0),(14,0),(15,0),(16,0),(17,0),(18,0),(19,0)]) (by kernel_rfl) (by simp[Av,get]) ?_;obtain ⟨Yh,g39,GC⟩:=bK GC;have f40:=AA g39;have f41:(Ag x6).getD (Int.toNat x34) []=[(.int .i64 Yh)]:=AB _ g39;cases c42:decide (0≤Yh)
   · simp only[c42,cond_false] at GC;simp only[Option.bind_some,At] at GC;try simp only[go_sem,f40,f41,c42]
     exact Ame (v23,(IntKind.i64.wrap (v24+1))) _ GC ((Wk.forget (by simp[Le,AG,Av,get,Aa,Ac,Ad,D.ids,Ai,AO.ids,Ae,base,ZE,c5])))
   simp only[c42,cond_true] at GC;cases c43:decide (v23<0)
   · simp only[c43,cond_false] at GC;obtain ⟨x44,g45,GC⟩:=bK GC;have f46:=AA g45;have f47:(Ag x6).getD (Int.toNat v23) []=[(.int .i64 x44)]:=AB _ g45;cases c48:decide (Yh<x44)
     · simp only[c48,cond_false] at GC;simp only[Option.bind_some,At] at GC;try simp only[go_sem,f40,f41,c42,c43,f46,f47,c48]
       exact Ame (v23,(IntKind.i64.wrap (v24+1))) _ GC ((Wk.forget (by simp[Le,AG,Av,get,Aa,Ac,Ad,D.ids,Ai,AO.ids,Ae,base,ZE,c5])))
     simp only[c48,cond_true] at GC;simp only[Option.bind_some,At] at GC;try simp only[go_sem,f40,f41,c42,c43,f46,f47,c48]
     exact Ame (x34,(IntKind.i64.wrap (v24+1))) _ GC ((Wk.forget (by simp[Le,AG,Av,get,Aa,Ac,Ad,D.ids,Ai,AO.ids,Ae,base,ZE,c5])))
   simp only[c43,cond_true] at GC;simp only[Option.bind_some,At] at GC;try simp only[go_sem,f40,f41,c42,c43]
   exact Ame (x34,(IntKind.i64.wrap (v24+1))) _ GC ((Wk.forget (by simp[Le,AG,Av,get,Aa,Ac,Ad,D.ids,Ai,AO.ids,Ae,base,ZE,c5])))
 simp only[c5,cond_true] at hr;obtain rfl:=Option.some.inj hr;try simp only[go_sem,f3,f4,c5]
 all_goals (try refine Ah ?_)
 all_goals (try simp only[go_sem,f3,f4,c5])
 all_goals (try (first | rfl | exact ⟨rfl,rfl⟩ | (simp;done)))
def nlD (l:List Int):D:=match l with
 | []=> .cl []
 | x::r=> .p (.sl (Ag (x::r)))
theorem Qr:nlD []= .cl []:=rfl
theorem Iz (x:Int) (r:List Int):nlD (x::r)= .p (.sl (Ag (x::r))):=rfl
noncomputable def LA (a0:List (List Int)) (a1:List Bool):(List Int)×Int→Option (((List Int)×Int)⊕((List Int)×Int))
 | (b,v)=>cond (decide (v<((a0.length:Nat):Int))) (Option.bind (Lz a0 a1 v) fun x=>cond (decide (0<((x.length:Nat):Int))) (cond b.isEmpty (some (.inl (x,IntKind.i64.wrap (v+1)))) (cond (decide (((x.length:Nat):Int)<((b.length:Nat):Int))) (some (.inl (x,IntKind.i64.wrap (v+1)))) (some (.inl (b,IntKind.i64.wrap (v+1)))))) (some (.inl (b,IntKind.i64.wrap (v+1))))) (some (.inr (b,v)))
theorem Jw (a0:List (List Int)) (a1:List Bool) (b:List Int) (v:Int):LA a0 a1 (b,v)=cond (decide (v<((a0.length:Nat):Int))) (Option.bind (Lz a0 a1 v) fun x=>cond (decide (0<((x.length:Nat):Int))) (cond b.isEmpty (some (.inl (x,IntKind.i64.wrap (v+1)))) (cond (decide (((x.length:Nat):Int)<((b.length:Nat):Int))) (some (.inl (x,IntKind.i64.wrap (v+1)))) (some (.inl (b,IntKind.i64.wrap (v+1)))))) (some (.inl (b,IntKind.i64.wrap (v+1))))) (some (.inr (b,v))):=rfl
noncomputable def KX (a0:List (List Int)) (a1:List Bool):Option (Int×(List Int)×Int):=
 Option.bind (K0 a0 a1) fun x1=>cond (decide (x1=0)) (Option.bind (AS (LA a0 a1) ([],0)) (fun (b,v)=>some (((b.length:Nat):Int),b,0))) (some (0,[],x1))
theorem ZG (a0:List (List Int)) (a1:List Bool) (r:Int×(List Int)×Int) (hr:KX a0 a1=some r):
   Aj Tryz.prog 25 [.p (.sl (AM a0)),.p (.sl (Bf a1))] [] fun h d=>h=[]∧d= .BA [.p (.int .i64 r.1),.p (.sl (Ag r.2.1)),.p (.int .i64 r.2.2)]:=by
 refine Ak Tryz.func25 rfl Ajf (by simp[Tryz.f25]) ?_;unfold KX at hr;obtain ⟨x1,g2,hr⟩:=bE hr;try simp only[go_sem]
 refine Au (ZH a0 a1 _ g2) ?_;rintro h' r ⟨rfl,rfl⟩;cases c3:decide (x1=0)
 · simp only[c3,cond_false] at hr;obtain rfl:=Option.some.inj hr;try simp only[go_sem,c3]
   all_goals (try refine Ah ?_)
   all_goals (try simp only[go_sem,c3])
   all_goals (try (first | rfl | exact ⟨rfl,rfl⟩ | (simp;done)))
 simp only[c3,cond_true] at hr;obtain ⟨e11,g12,hr⟩:=bE hr;try simp only[go_sem,c3]
 refine Bl g12 (fun q:(List Int)×Int=>⟨[(0,.p (.sl (AM a0))),(1,.p (.sl (Bf a1))),(8,nlD q.1),(18,.p (.int .i64 ((a0.length:Nat):Int))),(19,.p (.int .i64 q.2))],[],45⟩) ((Wk.forget (by simp[Le,AG,Av,get,Aa,Ac,Ad,D.ids,Ai,AO.ids,Ae,base,Qr,ZE]))) ?_;rintro ⟨v6,v7⟩ m10 Dz Zk;rw[Jw] at Dz;cases MU:decide (v7<((a0.length:Nat):Int))
 · simp only[MU,cond_false] at Dz;simp only[Option.bind_some,Ar] at Dz;obtain rfl:=Option.some.inj Dz;try dsimp only at hr
   obtain rfl:=Option.some.inj hr;rcases v6 with _ | ⟨b0,bs⟩
   · try simp only[go_sem,MU,Qr]
     all_goals (try refine Ah ?_)
     all_goals (try simp only[go_sem,MU])
     all_goals (try (first | rfl | exact ⟨rfl,rfl⟩ | (simp;done)))
   · try simp only[go_sem,MU,Iz,Ab]
     all_goals (try refine Ah ?_)
     all_goals (try simp only[go_sem,MU,Ab])
     all_goals (try (first | rfl | exact ⟨rfl,rfl⟩ | (simp;done)))
 simp only[MU,cond_true] at Dz;obtain ⟨J8,g15,Dz⟩:=bK Dz;rcases v6 with _ | ⟨b0,bs⟩
 · try simp only[go_sem,MU,Qr]
   refine Au (T4 a0 a1 v7 _ g15) ?_;rintro h' r ⟨rfl,rfl⟩;cases Ip:decide (0<((J8.length:Nat):Int))
   · simp only[Ip,cond_false] at Dz;simp only[Option.bind_some,At] at Dz;try simp only[go_sem,Ip,Ab]
     exact Zk ([],(IntKind.i64.wrap (v7+1))) _ Dz ((Wk.forget (by simp[Le,AG,Av,get,Aa,Ac,Ad,D.ids,Ai,AO.ids,Ae,base,Qr,ZE])))
   simp only[Ip,cond_true,List.isEmpty_nil] at Dz;simp only[Option.bind_some,At] at Dz;try simp only[go_sem,Ip,Ab,List.isEmpty_nil]
   have hx:0<J8.length:=by have:=of_decide_eq_true Ip;omega
   rcases J8 with _ | ⟨y0,ys⟩
   · exact absurd hx (by simp)
   exact Zk (y0::ys,(IntKind.i64.wrap (v7+1))) _ Dz ((Wk.forget (by simp[Le,AG,Av,get,Aa,Ac,Ad,D.ids,Ai,AO.ids,Ae,base,Iz,ZE])))
 · have BC:Ag (b0::bs)≠[]:=by simp[Ag]
   try simp only[go_sem,MU,Iz]
   refine Au (T4 a0 a1 v7 _ g15) ?_;rintro h' r ⟨rfl,rfl⟩;cases Ip:decide (0<((J8.length:Nat):Int))
   · simp only[Ip,cond_false] at Dz;simp only[Option.bind_some,At] at Dz;try simp only[go_sem,Ip,Ab]
     exact Zk (b0::bs,(IntKind.i64.wrap (v7+1))) _ Dz ((Wk.forget (by simp[Le,AG,Av,get,Aa,Ac,Ad,D.ids,Ai,AO.ids,Ae,base,Iz,ZE])))
   simp only[Ip,cond_true,List.isEmpty_cons,cond_false] at Dz;cases Io:decide (((J8.length:Nat):Int)<(((b0::bs).length:Nat):Int))
   · have M9:decide (((J8.length:Nat):Int)<((bs.length+1:Nat):Int))=false:=Io;simp only[Io,cond_false] at Dz;simp only[Option.bind_some,At] at Dz;try simp only[go_sem,Ip,M9,Ab,BC,ne_eq]
     exact Zk (b0::bs,(IntKind.i64.wrap (v7+1))) _ Dz ((Wk.forget (by simp[Le,AG,Av,get,Aa,Ac,Ad,D.ids,Ai,AO.ids,Ae,base,Iz,ZE])))
   have M9:decide (((J8.length:Nat):Int)<((bs.length+1:Nat):Int))=true:=Io;simp only[Io,cond_true] at Dz;simp only[Option.bind_some,At] at Dz;try simp only[go_sem,Ip,M9,Ab,BC,ne_eq]
   have hx:0<J8.length:=by have:=of_decide_eq_true Ip;omega
   rcases J8 with _ | ⟨y0,ys⟩
   · exact absurd hx (by simp)
   exact Zk (y0::ys,(IntKind.i64.wrap (v7+1))) _ Dz ((Wk.forget (by simp[Le,AG,Av,get,Aa,Ac,Ad,D.ids,Ai,AO.ids,Ae,base,Iz,ZE])))
theorem Dk (n:Nat) (b:Bool):(Bf (List.replicate n b)).take n=Bf (List.replicate n b):=by rw[List.take_of_length_le];simp[Bf]
structure GJ where (IK:Int) (JX:List Int) (AH:Int) (cap:Int)
noncomputable def Rk (s:List UInt8):Option (List Ln×Int×Int):=some (BX s)
theorem Za (s:List UInt8) (r:List Ln×Int×Int) (h:Rk s=some r):Aj Tryz.prog 29 [.p (.str s)] [] fun h d=>h=[]∧d= .BA [.p (.sl (CN r.1)),.p (.int .i64 r.2.1),.p (.int .i64 r.2.2)]:=by cases h;exact Ab9 s
open Classical in noncomputable def lParse_v (l:List Ln):Option (List Dc×Int×Int):=if l.length≤10000000∧∀x∈l,x.fs.length≤10000000 then some (parseV l []) else none
theorem Y9 (l:List Ln) (r:List Dc×Int×Int) (h:lParse_v l=some r):Aj Tryz.prog 30 [.p (.sl (CN l))] [] fun h d=>h=[]∧d= .BA [.p (.sl (BO r.1)),.p (.int .i64 r.2.1),.p (.int .i64 r.2.2)]:=by unfold lParse_v at h;split at h<;>cases h;rename_i hs;exact Aaw l hs.1 hs.2
open Classical in noncomputable def lBuild_v (d:List Dc):Option (Nt×Int×Int):=if smallD d then some (nbuildV d) else none
theorem Zc (d:List Dc) (r:Nt×Int×Int) (h:lBuild_v d=some r):Aj Tryz.prog 31 [.p (.sl (BO d))] [] fun h q=>h=[]∧q= .BA [.agg [.p (.sl (Bi r.1.blocks)),.p (.sl (AM r.1.next)),.p (.sl (Bh r.1.spurs)),.p (.sl (Ag r.1.Al)),.p (.int .i64 r.1.cq),.p (.int .i64 r.1.ca),.p (.int .i64 r.1.cd),.p (.int .i64 r.1.cp)],.p (.int .i64 r.2.1),.p (.int .i64 r.2.2)]:=by unfold lBuild_v at h;split at h<;>cases h;rename_i hs;exact Ab1 d hs
noncomputable def Lq (a0:Nt):Int×Int→Option ((Int×Int)⊕((Int×Int)))
 | (v11,v12)=>cond (decide (v12<((a0.spurs.length:Nat):Int))) (Option.bind (A0 a0.spurs v12) fun Qn=>cond Qn.A1 (some (Sum.inl ((IntKind.i64.wrap (v11+Qn.AH)),(IntKind.i64.wrap (v12+1))))) (some (Sum.inl (v11,(IntKind.i64.wrap (v12+1)))))) (some (Sum.inr (v11,v12)))
theorem Jl (a0:Nt) (v11:Int) (v12:Int):Lq a0 (v11,v12)=cond (decide (v12<((a0.spurs.length:Nat):Int))) (Option.bind (A0 a0.spurs v12) fun Qn=>cond Qn.A1 (some (Sum.inl ((IntKind.i64.wrap (v11+Qn.AH)),(IntKind.i64.wrap (v12+1))))) (some (Sum.inl (v11,(IntKind.i64.wrap (v12+1)))))) (some (Sum.inr (v11,v12))):=rfl
noncomputable def KF (a0:Nt):Option (GJ×Int):=
 Option.bind (C3 (⟨a0.blocks,a0.next,a0.spurs,a0.Al,a0.cq,a0.ca,a0.cd,a0.cp⟩:Nt)) fun x1=>cond x1 (cond (decide (a0.next.length<10000000)) (Option.bind (KX a0.next (List.replicate a0.next.length false)) fun (x5,x6,x7)=>Option.bind (AS (Lq a0) (0,0)) (fun (J4,v26)=>cond (decide (0<x5)) (some ((⟨x5,x6,J4,(if (IntKind.i64.wrap (x5 - 1))<J4 then (IntKind.i64.wrap (x5 - 1)) else J4)⟩:GJ),0)) (some ((⟨x5,x6,J4,J4⟩:GJ),0)))) none) (some ((⟨0,[],0,0⟩:GJ),20))
theorem Rl (a0:Nt) (r:GJ×Int) (hr:KF a0=some r):
   Aj Tryz.prog 18 [.agg [.p (.sl (Bi a0.blocks)),.p (.sl (AM a0.next)),.p (.sl (Bh a0.spurs)),.p (.sl (Ag a0.Al)),.p (.int .i64 a0.cq),.p (.int .i64 a0.ca),.p (.int .i64 a0.cd),.p (.int .i64 a0.cp)]] [] fun h d=>h=[]∧d= .BA [.agg [.p (.int .i64 r.1.IK),.p (.sl (Ag r.1.JX)),.p (.int .i64 r.1.AH),.p (.int .i64 r.1.cap)],.p (.int .i64 r.2)]:=by
 refine Ak Tryz.func18 rfl Ajl (by simp[Tryz.f18]) ?_;unfold KF at hr;obtain ⟨x1,g2,hr⟩:=bE hr;try simp only[go_sem]
 refine Au (IA (⟨a0.blocks,a0.next,a0.spurs,a0.Al,a0.cq,a0.ca,a0.cd,a0.cp⟩:Nt) _ g2) ?_;rintro h' r ⟨rfl,rfl⟩;cases c3:x1
 · simp only[c3,cond_false] at hr;obtain rfl:=Option.some.inj hr;try simp only[go_sem,c3]
   all_goals (try refine Ah ?_)
   all_goals (try simp only[go_sem,c3])
   all_goals (try (first | rfl | exact ⟨rfl,rfl⟩ | (simp;done)))
 simp only[c3,cond_true] at hr;try simp only[go_sem,c3]
 refine AY mixed (p:=[(0,0),(1,0),(2,0),(3,0),(4,0),(5,1),(6,2),(7,0),(8,0),(9,0),(10,0),(11,0),(12,4),(13,4),(14,4)]) (by kernel_rfl) (by simp[Av,get]) ?_;obtain ⟨c4,hr⟩:=gE hr;try simp only[go_sem]
 refine ⟨by have:=of_decide_eq_true c4;omega,?_⟩;obtain ⟨⟨x5,x6,x7⟩,g8,hr⟩:=bE hr;try simp only[go_sem,Dk]
 refine Bu (ZG a0.next (List.replicate a0.next.length false) _ g8) ?_;rintro h' r ⟨rfl,rfl⟩;obtain ⟨e16,g17,hr⟩:=bE hr;try simp only[go_sem]
 refine Bl g17 (fun q:Int×Int=>⟨[(2,.ptr 2 0),(4,.ptr 4 0),(25,.p (.sl (Bh a0.spurs))),(26,.p (.int .i64 ((a0.spurs.length:Nat):Int))),(27,.p (.int .i64 q.2))],[(2,.box [.p (.int .i64 0),.cl [],.p (.int .i64 0),.p (.int .i64 0)]),(4,.box [.p (.int .i64 x5),.p (.sl (Ag x6)),.p (.int .i64 q.1),.p (.int .i64 0)])],54⟩) ((Wk.forget (by simp[Le,AG,Av,get,Aa,Ac,Ad,D.ids,Ai,AO.ids,Ae,base,ZE,Dk,c3]))) ?_;rintro ⟨v11,v12⟩ m15 O3 Asq;rw[Jl] at O3;cases Io:decide (v12<((a0.spurs.length:Nat):Int))
 · simp only[Io,cond_false] at O3;simp only[Option.bind_some,Ar] at O3;obtain rfl:=Option.some.inj O3;try dsimp only at hr
   cases M9:decide (0<x5)
   · simp only[M9,cond_false] at hr;obtain rfl:=Option.some.inj hr;try simp only[go_sem,Io,M9]
     all_goals (try refine Ah ?_)
     all_goals (try simp only[go_sem,Io,M9])
     all_goals (try (first | rfl | exact ⟨rfl,rfl⟩ | (simp;done)))
   simp only[M9,cond_true] at hr;obtain rfl:=Option.some.inj hr;try simp only[go_sem,Io,M9]
   all_goals (try refine Ah ?_)
   all_goals (try simp only[go_sem,Io,M9])
   all_goals (try (first | rfl | exact ⟨rfl,rfl⟩ | (simp;done)))
 simp only[Io,cond_true] at O3;obtain ⟨Qn,g21,O3⟩:=bK O3;have f22:=AA g21;have f23:(Bh a0.spurs).getD (Int.toNat v12) []=[(.str Qn.name),(.bool Qn.A1),(.int .i64 Qn.Ft),(.int .i64 Qn.out),(.int .i64 Qn.AH),(.int .i64 Qn.base)]:=AB _ g21;cases VE:Qn.A1
 · simp only[VE,cond_false] at O3;simp only[Option.bind_some,At] at O3;try simp only[go_sem,Io,f22,f23,VE]
   exact Asq (v11,(IntKind.i64.wrap (v12+1))) _ O3 ((Wk.forget (by simp[Le,AG,Av,get,Aa,Ac,Ad,D.ids,Ai,AO.ids,Ae,base,ZE,Dk,c3,VE])))
 simp only[VE,cond_true] at O3;simp only[Option.bind_some,At] at O3;try simp only[go_sem,Io,f22,f23,VE]
 exact Asq ((IntKind.i64.wrap (v11+Qn.AH)),(IntKind.i64.wrap (v12+1))) _ O3 ((Wk.forget (by simp[Le,AG,Av,get,Aa,Ac,Ad,D.ids,Ai,AO.ids,Ae,base,ZE,Dk,c3,VE])))
noncomputable def Lr (x2:List Int):Int→Option ((Int)⊕(Int⊕Bool))
 | v6=>cond (decide (v6<((x2.length:Nat):Int))) (Option.bind (A0 x2 v6) fun Tb=>cond (decide (Tb=0)) (some (Sum.inl (IntKind.i64.wrap (v6+1)))) (some (Sum.inr (.inr ((true:Bool)))))) (some (Sum.inr (.inl v6)))
theorem Jn (x2:List Int) (v6:Int):Lr x2 v6=cond (decide (v6<((x2.length:Nat):Int))) (Option.bind (A0 x2 v6) fun Tb=>cond (decide (Tb=0)) (some (Sum.inl (IntKind.i64.wrap (v6+1)))) (some (Sum.inr (.inr ((true:Bool)))))) (some (Sum.inr (.inl v6))):=rfl
noncomputable def KG (a0:Nt):Option (Bool):=
 cond (decide (a0.next.length<10000000)) (Option.bind (La a0.next (List.replicate a0.next.length false)) fun (x2,x3)=>Option.bind (AS (Lr x2) 0) (fun | .inl v18=>some false | .inr (r19)=>some r19)) none
theorem Zd (a0:Nt) (r:Bool) (hr:KG a0=some r):
   Aj Tryz.prog 32 [.agg [.p (.sl (Bi a0.blocks)),.p (.sl (AM a0.next)),.p (.sl (Bh a0.spurs)),.p (.sl (Ag a0.Al)),.p (.int .i64 a0.cq),.p (.int .i64 a0.ca),.p (.int .i64 a0.cd),.p (.int .i64 a0.cp)]] [] fun h d=>h=[]∧d= .p (.bool r):=by
 refine Ak Tryz.func32 rfl Aj8 (by simp[Tryz.f32]) ?_;unfold KG at hr;try simp only[go_sem]
 refine AY mixed (p:=[(0,0),(1,0),(2,0),(3,0),(4,0),(5,1),(6,2),(7,0),(8,0),(9,0),(10,0),(11,0)]) (by kernel_rfl) (by simp[Av,get]) ?_;obtain ⟨c1,hr⟩:=gE hr;try simp only[go_sem]
 refine ⟨by have:=of_decide_eq_true c1;omega,?_⟩;obtain ⟨⟨x2,x3⟩,g4,hr⟩:=bE hr;try simp only[go_sem,Dk]
 refine Bu (ZQ a0.next (List.replicate a0.next.length false) _ g4) ?_;rintro h' r ⟨rfl,rfl⟩;obtain ⟨e10,g11,hr⟩:=bE hr;try simp only[go_sem]
 refine Bl g11 (fun q:Int=>⟨[(17,.p (.sl (Ag x2))),(18,.p (.int .i64 ((x2.length:Nat):Int))),(19,.p (.int .i64 q))],[],26⟩) ((Wk.forget (by simp[Le,AG,Av,get,Aa,Ac,Ad,D.ids,Ai,AO.ids,Ae,base,ZE,Dk]))) ?_;rintro v6 m9 hh7 ih8;rw[Jn] at hh7;cases c12:decide (v6<((x2.length:Nat):Int))
 · simp only[c12,cond_false] at hh7;simp only[Option.bind_some,Ar] at hh7;obtain rfl:=Option.some.inj hh7;try dsimp only at hr
   obtain rfl:=Option.some.inj hr;try simp only[go_sem,c12]
   all_goals (try refine Ah ?_)
   all_goals (try simp only[go_sem,c12])
   all_goals (try (first | rfl | exact ⟨rfl,rfl⟩ | (simp;done)))
 simp only[c12,cond_true] at hh7;obtain ⟨Tb,g14,hh7⟩:=bK hh7;have f15:=AA g14;have f16:(Ag x2).getD (Int.toNat v6) []=[(.int .i64 Tb)]:=AB _ g14;cases Na:decide (Tb=0)
 · simp only[Na,cond_false] at hh7;simp only[Option.bind_some,Ar] at hh7;obtain rfl:=Option.some.inj hh7;try dsimp only at hr
   obtain rfl:=Option.some.inj hr;try simp only[go_sem,c12,f15,f16,Na]
   all_goals (try refine Ah ?_)
   all_goals (try simp only[go_sem,c12,f15,f16,Na])
   all_goals (try (first | rfl | exact ⟨rfl,rfl⟩ | (simp;done)))
 simp only[Na,cond_true] at hh7;simp only[Option.bind_some,At] at hh7;try simp only[go_sem,c12,f15,f16,Na]
 exact ih8 (IntKind.i64.wrap (v6+1)) _ hh7 ((Wk.forget (by simp[Le,AG,Av,get,Aa,Ac,Ad,D.ids,Ai,AO.ids,Ae,base,ZE,Dk])))
noncomputable def H0 (a0:List UInt8):Option (Nt×GJ×Int×Int):=
 Option.bind (Rk a0) fun (x1,x2,x3)=>cond (decide (x3=0)) (Option.bind (lParse_v x1) fun (x6,x7,x8)=>cond (decide (x8=0)) (Option.bind (lBuild_v x6) fun (BM,Yz,Tb)=>cond (decide (Tb=0)) (Option.bind (KF (⟨BM.blocks,BM.next,BM.spurs,BM.Al,BM.cq,BM.ca,BM.cd,BM.cp⟩:Nt)) fun (Nd,Nc)=>Option.bind (KG (⟨BM.blocks,BM.next,BM.spurs,BM.Al,BM.cq,BM.ca,BM.cd,BM.cp⟩:Nt)) fun x19=>cond x19 (some ((⟨[],[],[],[],0,0,0,0⟩:Nt),(⟨0,[],0,0⟩:GJ),Yz,17)) (cond (decide (Nd.cap<((BM.Al.length:Nat):Int))) (some ((⟨[],[],[],[],0,0,0,0⟩:Nt),(⟨0,[],0,0⟩:GJ),Yz,18)) (some ((⟨BM.blocks,BM.next,BM.spurs,BM.Al,BM.cq,BM.ca,BM.cd,BM.cp⟩:Nt),(⟨Nd.IK,Nd.JX,Nd.AH,Nd.cap⟩:GJ),0,Nc)))) (some ((⟨[],[],[],[],0,0,0,0⟩:Nt),(⟨0,[],0,0⟩:GJ),Yz,Tb))) (some ((⟨[],[],[],[],0,0,0,0⟩:Nt),(⟨0,[],0,0⟩:GJ),x7,x8))) (some ((⟨[],[],[],[],0,0,0,0⟩:Nt),(⟨0,[],0,0⟩:GJ),x2,x3))
theorem TG (a0:List UInt8) (r:Nt×GJ×Int×Int) (hr:H0 a0=some r):
   Aj Tryz.prog 10 [.p (.str a0)] [] fun h d=>h=[]∧d= .BA [.agg [.p (.sl (Bi r.1.blocks)),.p (.sl (AM r.1.next)),.p (.sl (Bh r.1.spurs)),.p (.sl (Ag r.1.Al)),.p (.int .i64 r.1.cq),.p (.int .i64 r.1.ca),.p (.int .i64 r.1.cd),.p (.int .i64 r.1.cp)],.agg [.p (.int .i64 r.2.1.IK),.p (.sl (Ag r.2.1.JX)),.p (.int .i64 r.2.1.AH),.p (.int .i64 r.2.1.cap)],.p (.int .i64 r.2.2.1),.p (.int .i64 r.2.2.2)]:=by
 refine Ak Tryz.func10 rfl Ajn (by simp[Tryz.f10]) ?_;unfold H0 at hr;try simp only[go_sem]
 refine s8 1 ?_;obtain ⟨⟨x1,x2,x3⟩,g4,hr⟩:=bE hr;try simp only[go_sem]
 refine Au (Za a0 _ g4) ?_;rintro h' r ⟨rfl,rfl⟩;cases c5:decide (x3=0)
 · simp only[c5,cond_false] at hr;try simp only[go_sem,c5]
   refine X9 rfl ?_;obtain rfl:=Option.some.inj hr;try simp only[go_sem]
   all_goals (try refine Ah ?_)
   all_goals (try simp only[go_sem])
   all_goals (try (first | rfl | exact ⟨rfl,rfl⟩ | (simp;done)))
 simp only[c5,cond_true] at hr;obtain ⟨⟨x6,x7,x8⟩,g9,hr⟩:=bE hr;try simp only[go_sem,c5]
 refine Au (Y9 x1 _ g9) ?_;rintro h' r ⟨rfl,rfl⟩;cases Iq:decide (x8=0)
 · simp only[Iq,cond_false] at hr;try simp only[go_sem,Iq]
   refine X9 rfl ?_;obtain rfl:=Option.some.inj hr;try simp only[go_sem]
   all_goals (try refine Ah ?_)
   all_goals (try simp only[go_sem])
   all_goals (try (first | rfl | exact ⟨rfl,rfl⟩ | (simp;done)))
 simp only[Iq,cond_true] at hr;obtain ⟨⟨BM,Yz,Tb⟩,g14,hr⟩:=bE hr;try simp only[go_sem,Iq]
 refine Au (Zc x6 _ g14) ?_;rintro h' r ⟨rfl,rfl⟩;cases H4:decide (Tb=0)
 · simp only[H4,cond_false] at hr;try simp only[go_sem,H4]
   refine X9 rfl ?_;obtain rfl:=Option.some.inj hr;try simp only[go_sem]
   all_goals (try refine Ah ?_)
   all_goals (try simp only[go_sem])
   all_goals (try (first | rfl | exact ⟨rfl,rfl⟩ | (simp;done)))
 simp only[H4,cond_true] at hr;obtain ⟨⟨Nd,Nc⟩,g18,hr⟩:=bE hr;try simp only[go_sem,H4]
 refine Au (Rl (⟨BM.blocks,BM.next,BM.spurs,BM.Al,BM.cq,BM.ca,BM.cd,BM.cp⟩:Nt) _ g18) ?_;rintro h' r ⟨rfl,rfl⟩;obtain ⟨x19,g20,hr⟩:=bE hr;try simp only[go_sem]
 refine Au (Zd (⟨BM.blocks,BM.next,BM.spurs,BM.Al,BM.cq,BM.ca,BM.cd,BM.cp⟩:Nt) _ g20) ?_;rintro h' r ⟨rfl,rfl⟩;cases c21:x19
 · simp only[c21,cond_false] at hr;cases QA:decide (Nd.cap<((BM.Al.length:Nat):Int))
   · simp only[QA,cond_false] at hr;try simp only[go_sem,c21,QA]
     refine BB [(7,.box [.p (.sl (Bi BM.blocks)),.p (.sl (AM BM.next)),.p (.sl (Bh BM.spurs)),.p (.sl (Ag BM.Al)),.p (.int .i64 BM.cq),.p (.int .i64 BM.ca),.p (.int .i64 BM.cd),.p (.int .i64 BM.cp)]),(8,.box [.p (.int .i64 Nd.IK),.p (.sl (Ag Nd.JX)),.p (.int .i64 Nd.AH),.p (.int .i64 Nd.cap)])] mixed (p:=[(0,0),(1,0),(2,0),(3,2),(4,2),(5,0),(6,0)]) (by kernel_rfl) (by simp[Av,get]) ?_;obtain rfl:=Option.some.inj hr;try simp only[go_sem]
     all_goals (try refine Ah ?_)
     all_goals (try simp only[go_sem])
     all_goals (try (first | rfl | exact ⟨rfl,rfl⟩ | (simp;done)))
   simp only[QA,cond_true] at hr;try simp only[go_sem,c21,QA]
   refine X9 rfl ?_;obtain rfl:=Option.some.inj hr;try simp only[go_sem]
   all_goals (try refine Ah ?_)
   all_goals (try simp only[go_sem])
   all_goals (try (first | rfl | exact ⟨rfl,rfl⟩ | (simp;done)))
 simp only[c21,cond_true] at hr;try simp only[go_sem,c21]
 refine X9 rfl ?_;obtain rfl:=Option.some.inj hr;try simp only[go_sem]
 all_goals (try refine Ah ?_)
 all_goals (try simp only[go_sem])
 all_goals (try (first | rfl | exact ⟨rfl,rfl⟩ | (simp;done)))
theorem Ib {l:List Int} {k:Nat} (h:k<l.length) (w:Int):w∈l.take (k+1)↔w∈l.take k∨l.getD k 0=w:=by
 rw[AR l k 0 h];simp[eq_comm]
theorem Afv {g:List (List Int)} (hg:B8 g) {u:Nat} (hu:u<g.length) {k:Nat} (hk:k<(g.getD u []).length):(g.getD u []).getD k 0∉(g.getD u []).take k:=by
 intro hm;obtain ⟨i,hi,he⟩:=List.mem_iff_getElem.1 hm;have C0:i<k:=by simp only[List.length_take] at hi;omega
 have:=Aae hg hu C0 hk;rw[List.getElem_take] at he;have e1:(g.getD u []).getD i 0=(g.getD u [])[i]'(by omega):=getD_eq (by omega);rw[e1,he] at this;omega
theorem Ac4 {g:List (List Int)} (hg:B8 g) {sh:List Bool} (FJ:sh.length=g.length):K0 g sh=some 0:=by
 have Bj:∀u,u<g.length→AS (LB g (u:Int) (g.getD u [])) (0,-1)=some (.inl (((g.getD u []).length:Nat),if (g.getD u []).length=0 then -1 else (g.getD u []).getD ((g.getD u []).length - 1) 0)):=fun u hu=>by
   refine Bw (g.getD u []).length (fun k=>(((k:Nat):Int),if k=0 then -1 else (g.getD u []).getD (k - 1) 0)) _ (fun k hk=>?_) ?_
   · have h1:=hg.2 u hu k hk;unfold Hk at h1;have hl:=GP hg hu;try dsimp only
     rw[Jy];simp only[D2 hk,cond_true,AU _ _ 0 hk,Option.bind_some];have c1:decide ((g.getD u []).getD k 0≤if k=0 then -1 else (g.getD u []).getD (k - 1) 0)=false:=decide_eq_false (by split<;>omega);have c2:decide (((g.length:Nat):Int)≤(g.getD u []).getD k 0)=false:=decide_eq_false (by omega);have c3:decide ((g.getD u []).getD k 0=(u:Int))=false:=decide_eq_false (by omega);simp only[c1,c2,c3,cond_false];rw[AZ (by omega)];simp
   · try dsimp only
     rw[Jy];simp only[Fj,cond_false]
 have B4:AS (Pa g) ((0:Nat):Int)=some (.inl ((g.length:Nat):Int)):=by
   refine Bw g.length (fun k=>((k:Nat):Int)) _ (fun u hu=>?_) ?_
   · rw[Jx];simp only[D2 hu,cond_true,AU _ _ [] hu,Option.bind_some];rw[Bj u hu];simp only[Option.bind_some];rw[AZ (by have:=hg.1;omega)]
   · rw[Jx];simp only[Fj,cond_false]
 unfold K0;have c1:decide (24<((g.length:Nat):Int))=false:=decide_eq_false (by have:=hg.1;omega);have c2:decide (((sh.length:Nat):Int)=((g.length:Nat):Int))=true:=decide_eq_true (by rw[FJ]);simp only[c1,cond_false];rw[show (0:Int)=((0:Nat):Int) from rfl,B4];simp only[Option.bind_some,c2,cond_true]
theorem Ahy {g:List (List Int)} (hg:B8 g) {sh:List Bool} {goal:Nat} {w:Int} {v:Nat} {d q:List Int} (h:BF g sh goal w v d q) (Ol:0≤w) (hv:v<g.length) (hd:d.getD v 0<0):
   AS (KZ w (v:Int) (g.getD v [])) (d,0,q)=some (if w∈g.getD v [] then (d.set v (d.getD w.toNat 0+1),(((g.getD v []).length:Nat):Int),q++[(v:Int)]) else (d,(((g.getD v []).length:Nat):Int),q)):=by
 have hl:=GP hg hv;obtain ⟨hc1,Vn,hc3,hc4⟩:=h.cur Ol;have VX:=h.len;have hb:=h.bnd w.toNat (by omega);have hq:=h.Ag2;have O4:=hg.1;have key:=Bw (step:=KZ w (v:Int) (g.getD v [])) (g.getD v []).length
   (fun k=>if w∈(g.getD v []).take k then (d.set v (d.getD w.toNat 0+1),((k:Nat):Int),q++[(v:Int)]) else (d,((k:Nat):Int),q))
   (if w∈g.getD v [] then (d.set v (d.getD w.toNat 0+1),(((g.getD v []).length:Nat):Int),q++[(v:Int)]) else (d,(((g.getD v []).length:Nat):Int),q)) (fun k hk=>?_) ?_
 · simpa using key
 · try dsimp only
   by_cases c:w∈(g.getD v []).take k
   · have BC:(g.getD v []).getD k 0≠w:=fun e=>by
       have:=Afv hg hv hk;rw[e] at this;exact this c
     rw[if_pos c,if_pos ((Ib hk w).2 (.inl c)),DG];simp only[D2 hk,cond_true,AU _ _ 0 hk,Option.bind_some,decide_eq_false BC,cond_false];rw[AZ (by omega)]
   · rw[if_neg c];by_cases e:(g.getD v []).getD k 0=w
     · rw[if_pos ((Ib hk w).2 (.inr e)),DG];have i1:A0 d w=some (d.getD w.toNat 0):=by
         have:=AU d w.toNat 0 (by omega);rw[show ((w.toNat:Nat):Int)=w by omega] at this;exact this
       have i2:=AU d v 0 (by omega);have c5:decide (q.length+1<10000000)=true:=decide_eq_true (by omega);simp only[D2 hk,cond_true,AU _ _ 0 hk,Option.bind_some,decide_eq_true e,i1,i2,c5];rw[AZ (by omega)];have:IntKind.i64.wrap (d.getD w.toNat 0+1)=d.getD w.toNat 0+1:=by
         have:=AZ (n:=(d.getD w.toNat 0).toNat) (by omega);rw[show (((d.getD w.toNat 0).toNat:Nat):Int)=d.getD w.toNat 0 by omega] at this;rw[this];omega
       rw[this];simp
     · rw[if_neg (fun hm=>by rcases (Ib hk w).1 hm with h1 | h1;exact c h1;exact e h1),DG];simp only[D2 hk,cond_true,AU _ _ 0 hk,Option.bind_some,decide_eq_false e,cond_false];rw[AZ (by omega)]
 · try dsimp only
   rw[List.take_length];split
   · rw[DG];simp only[Fj,cond_false]
   · rw[DG];simp only[Fj,cond_false]
theorem Ac3 {g:List (List Int)} (hg:B8 g) {sh:List Bool} (FJ:sh.length=g.length) {goal:Nat} {w:Int} {d q:List Int} (h:BF g sh goal w 0 d q) (Ol:0≤w):
   ∃d' q',AS (IM g sh w) (d,0,q)=some (d',((g.length:Nat):Int),q')∧BF g sh goal w g.length d' q'∧q'.length+Ia d'=q.length+Ia d:=by
 have O4:=hg.1;obtain ⟨e,h1,h2⟩:∃e,AS (IM g sh w) (d,0,q)=some e∧e.2.1=((g.length:Nat):Int)∧BF g sh goal w g.length e.1 e.2.2∧e.2.2.length+Ia e.1=q.length+Ia d:=by
   refine OR (step:=IM g sh w) (fun s=>∃v:Nat,s.2.1=(v:Int)∧v≤g.length∧BF g sh goal w v s.1 s.2.2∧s.2.2.length+Ia s.1=q.length+Ia d)
     (fun s=>g.length - s.2.1.toNat) (fun e=>e.2.1=((g.length:Nat):Int)∧BF g sh goal w g.length e.1 e.2.2∧e.2.2.length+Ia e.1=q.length+Ia d) (fun s hs=>?_) (d,0,q) ⟨0,rfl,by omega,h,rfl⟩
   obtain ⟨d1,i,q1⟩:=s;obtain ⟨v,h3,h4,h5,h6⟩:=hs;dsimp only at h3 h4 h5 h6;subst h3;rw[PV];by_cases hv:v<g.length
   · have VX:=h5.len;have i1:=AU g v [] hv;have i2:=AU d1 v 0 (by omega);have i3:=AU sh v false (by omega);simp only[D2 hv,cond_true,i1,i2,Option.bind_some];by_cases c1:0≤d1.getD v 0
     · simp only[decide_eq_true c1,cond_true];rw[AZ (by omega)];exact ⟨_,rfl,⟨v+1,rfl,hv,h5.skip Ol (.inl c1),h6⟩,by dsimp only;omega⟩
     · simp only[decide_eq_false c1,cond_false,i3,Option.bind_some];cases c2:sh.getD v false
       · simp only[cond_false];rw[Ahy hg h5 Ol hv (by omega)];simp only[Option.bind_some];rw[AZ (by omega)];by_cases c3:w∈g.getD v []
         · rw[if_pos c3];have hn:=Rb (d:=d1) (v:=v) (x:=d1.getD w.toNat 0+1) (by omega) (by omega) (by have:=(h5.cur Ol).2.1;omega);exact ⟨_,rfl,⟨v+1,rfl,hv,h5.push Ol hv (by omega) c2 c3,by simp only[List.length_append,List.length_singleton];omega⟩,by dsimp only;omega⟩
         · rw[if_neg c3];exact ⟨_,rfl,⟨v+1,rfl,hv,h5.skip Ol (.inr (.inr c3)),h6⟩,by dsimp only;omega⟩
       · simp only[cond_true];rw[AZ (by omega)];exact ⟨_,rfl,⟨v+1,rfl,hv,h5.skip Ol (.inr (.inl c2)),h6⟩,by dsimp only;omega⟩
   · have e1:v=g.length:=by omega
     subst e1;simp only[Fj,cond_false];exact ⟨_,rfl,rfl,h5,h6⟩
 obtain ⟨d',i,q'⟩:=e;obtain ⟨h3,h4,h5⟩:=h2;dsimp only at h3 h4 h5;subst h3;exact ⟨d',q',h1,h4,h5⟩
theorem BF.fin {g:List (List Int)} {sh:List Bool} {goal:Nat} {d q:List Int} {w:Int} (h:BF g sh goal w g.length d q):BF g sh goal (-1) 0 d q:=
 ⟨h.len,h.lo,h.zero,h.prev,h.shut,h.qin,h.sorted,h.top,fun y hy VV hy3 hy4 u hu _ hs hm=>h.done y hy VV hy3 hy4 u hu (fun _=>hu) hs hm,h.bnd,h.Ag2,fun h=>by omega⟩
theorem Ahx {g:List (List Int)} (hg:B8 g) {sh:List Bool} (FJ:sh.length=g.length) {goal:Nat} (Cw:goal<g.length) (ho:sh.getD goal false=false):NV g sh (goal:Int)=some (BG g sh goal):=by
 have O4:=hg.1;have h4:AS (NW g) (List.replicate g.length 0,((0:Nat):Int))=some (List.replicate g.length (-1),((g.length:Nat):Int)):=by
   have:=Bw (step:=NW g) g.length (fun k=>(List.replicate k (-1)++List.replicate (g.length - k) 0,((k:Nat):Int))) (List.replicate g.length (-1),((g.length:Nat):Int)) (fun k hk=>?_) ?_
   · simpa using this
   · try dsimp only
     rw[KY];have i1:=AU (List.replicate k (-1)++List.replicate (g.length - k) (0:Int)) k 0 (by simp;omega);simp only[D2 hk,cond_true,i1,Option.bind_some];rw[AZ (by omega),show ((k:Nat):Int).toNat=k by omega];have:(List.replicate k (-1)++List.replicate (g.length - k) (0:Int)).set k (-1)=List.replicate (k+1) (-1)++List.replicate (g.length - (k+1)) 0:=by
       rw[List.set_append_right _ _ (by simp),show g.length - k=(g.length - (k+1))+1 by omega,List.replicate_succ];simp[List.replicate_succ']
     rw[this]
   · try dsimp only
     rw[KY];simp only[Fj,cond_false];simp
 obtain ⟨e,h1,h2⟩:∃e,AS (NY g sh) ((List.replicate g.length (-1)).set goal 0,[(goal:Int)])=some e∧DS g sh goal e.1:=by
   refine OR (step:=NY g sh) (fun s=>BF g sh goal (-1) 0 s.1 s.2) (fun s=>s.2.length+Ia s.1) (fun e=>DS g sh goal e.1) (fun s hs=>?_) ((List.replicate g.length (-1)).set goal 0,[(goal:Int)]) (BF.init Cw ho);obtain ⟨d,q⟩:=s;dsimp only at hs;rw[PU];cases q with
   | nil=>
     have c0:decide ((0:Int)<((([]:List Int).length:Nat):Int))=false:=rfl;simp only[c0,cond_false];exact ⟨_,rfl,hs.end hg (.inl (by omega))⟩
   | cons w q=>
     have c0:decide ((0:Int)<(((w::q).length:Nat):Int))=true:=decide_eq_true (by simp only[List.length_cons];omega);have c1:decide ((0:Nat)≤1∧(1:Int)≤(((w::q).length:Nat):Int)∧(((w::q).length:Nat):Int)≤(((w::q).length:Nat):Int))=true:=decide_eq_true (by simp only[List.length_cons];omega);have i0:A0 (w::q) 0=some w:=rfl;have hp:=hs.pop (.inl (by omega));have hw:=hs.qin w (by simp);obtain ⟨d',q',h5,h6,h7⟩:=Ac3 hg FJ hp hw.1;simp only[c0,c1,cond_true,i0,Option.bind_some,List.drop_succ_cons,List.drop_zero];rw[h5];simp only[Option.bind_some];exact ⟨_,rfl,h6.fin,by dsimp only;simp only[List.length_cons];omega⟩
 unfold NV;have c1:decide (g.length<10000000)=true:=decide_eq_true (by omega);have i1:=AU (List.replicate g.length (-1:Int)) goal 0 (by simpa using Cw);simp only[c1,cond_true];rw[show ((List.replicate g.length 0,(0:Int)):List Int×Int)=(List.replicate g.length 0,((0:Nat):Int)) from rfl,h4];simp only[Option.bind_some,i1];rw[show ((goal:Nat):Int).toNat=goal by omega,h1];simp only[Option.bind_some];rw[DS.uniq hg h2 (Sb hg Cw ho)]
theorem IF {l:List Int} {w:Int} (h0:0≤w) (h1:w<(l.length:Int)):A0 l w=some (l.getD w.toNat 0):=by
 have:=AU l w.toNat 0 (by omega);rw[show ((w.toNat:Nat):Int)=w by omega] at this;exact this
theorem Xe {g:List (List Int)} (hg:B8 g) {o:List Int} (ho:o.length=g.length) {u:Nat} (hu:u<g.length):
   AS (KW o (g.getD u [])) (-1,0)=some (Gj o (g.getD u []),(((g.getD u []).length:Nat):Int)):=by
 have hl:=GP hg hu;have key:=Bw (step:=KW o (g.getD u [])) (g.getD u []).length (fun k=>(((g.getD u []).take k).foldl (DY o) (-1),((k:Nat):Int))) (Gj o (g.getD u []),(((g.getD u []).length:Nat):Int)) (fun k hk=>?_) ?_
 · simpa using key
 · try dsimp only
   have hm:(g.getD u []).getD k 0∈g.getD u []:=by
     have e1:(g.getD u []).getD k 0=(g.getD u [])[k]:=getD_eq hk;rw[e1];exact List.getElem_mem hk
   have hr:=Eo hg hu hm;rw[KV];have i2:=IF (l:=o) hr.1 (by omega);simp only[D2 hk,cond_true,AU _ _ 0 hk,Option.bind_some,i2];rw[AR _ k 0 hk,List.foldl_append,List.foldl_cons,List.foldl_nil];have hb:=G8 o ((g.getD u []).take k) (-1);generalize ((g.getD u []).take k).foldl (DY o) (-1)=b at hb;generalize hx:(g.getD u []).getD k 0=x at*;unfold DY;by_cases c1:0≤o.getD x.toNat 0
   · simp only[decide_eq_true c1,cond_true];by_cases c2:b<0
     · simp only[decide_eq_true c2,cond_true];rw[AZ (by omega),if_pos ⟨c1,.inl c2⟩]
     · have SI:b∈g.getD u []:=by
         rcases hb with h | h
         · omega
         · exact List.mem_of_mem_take h.1
       have hbr:=Eo hg hu SI;have i3:=IF (l:=o) hbr.1 (by omega);simp only[decide_eq_false c2,cond_false,i3,Option.bind_some];by_cases c3:o.getD x.toNat 0<o.getD b.toNat 0
       · simp only[decide_eq_true c3,cond_true];rw[AZ (by omega),if_pos ⟨c1,.inr c3⟩]
       · simp only[decide_eq_false c3,cond_false];rw[AZ (by omega),if_neg (by rintro ⟨_,h | h⟩;exact c2 h;exact c3 h)]
   · simp only[decide_eq_false c1,cond_false];rw[AZ (by omega),if_neg (fun h=>c1 h.1)]
 · try dsimp only
   rw[KV,List.take_length];simp only[Fj,cond_false];rfl
theorem DS.II {g:List (List Int)} (hg:B8 g) {sh:List Bool} {goal:Nat} {o:List Int} (ho:DS g sh goal o) {v:Nat} (hv:v<g.length) (h1:1≤o.getD v 0):
   0≤HO o (g.getD v []) (o.getD v 0 - 1)∧HO o (g.getD v []) (o.getD v 0 - 1)<(g.length:Int)∧o.getD (HO o (g.getD v []) (o.getD v 0 - 1)).toNat 0=o.getD v 0 - 1:=by
 obtain ⟨h2,h3⟩:=Ahe (ho.prev v hv h1);have:=Eo hg hv h2;exact ⟨this.1,this.2.1,h3⟩
theorem Xf {g:List (List Int)} (hg:B8 g) {sh:List Bool} {goal:Nat} {o:List Int} (ho:DS g sh goal o) (Cw:goal<g.length):∀(f b:Nat) (W:List Int),b<g.length→o.getD b 0=((f+1:Nat):Int)→W.length+f+1≤1000→
   AS (RJ g (goal:Int) o) (W++[(b:Int)],(b:Int))=some (W++LM g o (f+1) (b:Int))
 | f,b,W,hb,hd,hW=>by
   have Aty:=DS.Akl hg ho hb (by omega);obtain ⟨h1,h2,h3⟩:=ho.II hg hb (by omega);have hz:=ho.zero (HO o (g.getD b []) (o.getD b 0 - 1)).toNat (by omega);rw[Bx,KU];simp only[AU _ _ [] hb,Option.bind_some];rw[Xe hg ho.len hb];simp only[Option.bind_some];rw[Aty];have Awg:LM g o (f+1) (b:Int)=(b:Int)::LM g o f (HO o (g.getD b []) (o.getD b 0 - 1)):=by
     rw[LM,show ((b:Nat):Int).toNat=b by omega]
   rw[Awg];generalize HO o (g.getD b []) (o.getD b 0 - 1)=x at*;have c1:decide (x<0)=false:=decide_eq_false (by omega);simp only[c1,cond_false];cases f with
   | zero=>
     have c2:decide (x=(goal:Int))=true:=decide_eq_true (by have:=hz.1 (by omega);omega);simp only[c2,cond_true,Option.bind_some,Ar];rfl
   | succ f=>
     have c2:decide (x=(goal:Int))=false:=decide_eq_false (fun e=>by have:=hz.2 (by omega);omega);have c3:decide ((W++[(b:Int)]).length+1<10000000)=true:=decide_eq_true (by simp only[List.length_append,List.length_singleton];omega);simp only[c2,c3,cond_false,cond_true,Option.bind_some,At];have ih:=Xf hg ho Cw f x.toNat (W++[(b:Int)]) (by omega) (by rw[h3];omega) (by simp only[List.length_append,List.length_singleton];omega);rw[show ((x.toNat:Nat):Int)=x by omega] at ih;rw[ih];simp
theorem Ahw {g:List (List Int)} (hg:B8 g) {sh:List Bool} (FJ:sh.length=g.length) {v:Nat} (hv:v<g.length):Lz g sh (v:Int)=some (D7 g sh v):=by
 unfold Lz D7;have i1:=AU sh v false (by omega);simp only[i1,Option.bind_some];cases hs:sh.getD v false
 · simp only[cond_false];rw[Ahx hg FJ hv hs];have ho:=Sb hg hv hs;have W4:=fun {u:Nat} (hu:u<g.length)=>G6 hg sh hv hu;generalize BG g sh v=o at ho W4;simp only[Option.bind_some];rw[Bx,KU];simp only[AU _ _ [] hv,Option.bind_some];rw[Xe hg ho.len hv];simp only[Option.bind_some];rw[if_neg (by simp)];have hb:=G8 o (g.getD v []) (-1)
   change Gj o (g.getD v [])=-1∨(Gj o (g.getD v [])∈g.getD v []∧0≤o.getD (Gj o (g.getD v [])).toNat 0) at hb
   generalize Gj o (g.getD v [])=b at*;by_cases c1:b<0
   · simp only[decide_eq_true c1,cond_true,Option.bind_some,Ar];rw[if_pos c1]
   · have SI:b∈g.getD v []∧0≤o.getD b.toNat 0:=by
       rcases hb with h | h
       · omega
       · exact h
     have hr:=Eo hg hv SI.1;have hz:=ho.zero b.toNat (by omega);have c2:decide (b=(v:Int))=false:=decide_eq_false hr.2.2;have c3:decide ([(v:Int)].length+1<10000000)=true:=rfl;have BC:o.getD b.toNat 0≠0:=fun e=>by have:=hz.1 e;omega
     have hle:=W4 (u:=b.toNat) (by omega);simp only[decide_eq_false c1,c2,c3,cond_false,cond_true,Option.bind_some,At];rw[if_neg c1];have:=Xf hg ho hv (o.getD b.toNat 0 - 1).toNat b.toNat [(v:Int)] (by omega) (by omega) (by simp only[List.length_singleton];omega);rw[show ((b.toNat:Nat):Int)=b by omega,show (o.getD b.toNat 0 - 1).toNat+1=(o.getD b.toNat 0).toNat by omega] at this;rw[this];rfl
 · simp only[cond_true,if_true]
theorem Aa4 {g:List (List Int)} (hg:B8 g) (sh:List Bool) {v:Nat} (hv:v<g.length):(D7 g sh v).length≤25:=by
 unfold D7;split
 · simp
 · try dsimp only
   split
   · simp
   · rename_i h1 h2;have hb:=G8 (BG g sh v) (g.getD v []) (-1)
     change Gj (BG g sh v) (g.getD v [])=-1∨(Gj (BG g sh v) (g.getD v [])∈g.getD v []∧_) at hb
     rw[List.length_cons,Is];rcases hb with h | h
     · omega
     · have hr:=Eo hg hv h.1;have:=G6 hg sh hv (v:=(Gj (BG g sh v) (g.getD v [])).toNat) (by omega);omega
theorem JW {g:List (List Int)} (hg:B8 g) (sh:List Bool):∀k,k≤g.length→((((List.range g.length).map (D7 g sh)).take k).foldl Ju []).length≤25
 | 0,_=>by simp
 | k+1,hk=>by
   have h1:=JW hg sh k (by omega);rw[AR _ k [] (by simp;omega),List.foldl_append,List.foldl_cons,List.foldl_nil];unfold Ju;split
   · rw[getD_map' (D7 g sh) _ k 0 [] (by simp;omega)];have:=Aa4 hg sh (v:=k) (by omega)
     simpa [List.getD,List.getElem?_range (show k<g.length by omega)] using this
   · exact h1
theorem Ac1 {g:List (List Int)} (hg:B8 g) {sh:List Bool} (FJ:sh.length=g.length):KX g sh=some ((((Dj g sh).length:Nat):Int),Dj g sh,0):=by
 have hl:AS (LA g sh) ([],((0:Nat):Int))=some (Dj g sh,((g.length:Nat):Int)):=by
   refine Bw (step:=LA g sh) g.length (fun k=>((((List.range g.length).map (D7 g sh)).take k).foldl Ju [],((k:Nat):Int))) _ (fun k hk=>?_) ?_
   · try dsimp only
     rw[Jw];simp only[D2 hk,cond_true];rw[Ahw hg FJ hk];simp only[Option.bind_some];have e1:((List.range g.length).map (D7 g sh)).getD k []=D7 g sh k:=by
       rw[getD_map' (D7 g sh) _ k 0 [] (by simpa using hk)];simp[List.getD,List.getElem?_range hk]
     rw[AR _ k [] (by simpa using hk),List.foldl_append,List.foldl_cons,List.foldl_nil,e1];generalize (((List.range g.length).map (D7 g sh)).take k).foldl Ju []=b;generalize D7 g sh k=x;have hw:=AZ (n:=k) (by have:=hg.1;omega);rw[hw];unfold Ju;by_cases c1:0<x.length
     · simp only[decide_eq_true (show (0:Int)<((x.length:Nat):Int) by omega),cond_true];cases b with
       | nil=>simp only[List.isEmpty_nil,cond_true];rw[if_pos ⟨c1,.inl rfl⟩]
       | cons b0 bs=>
         simp only[List.isEmpty_cons,cond_false];by_cases c2:x.length<(b0::bs).length
         · simp only[decide_eq_true (show ((x.length:Nat):Int)<(((b0::bs).length:Nat):Int) by omega),cond_true];rw[if_pos ⟨c1,.inr c2⟩]
         · simp only[decide_eq_false (show ¬((x.length:Nat):Int)<(((b0::bs).length:Nat):Int) by omega),cond_false];rw[if_neg (by rintro ⟨_,h | h⟩;simp at h;exact c2 h)]
     · simp only[decide_eq_false (show ¬(0:Int)<((x.length:Nat):Int) by omega),cond_false];rw[if_neg (fun h=>c1 h.1)]
   · try dsimp only
     rw[Jw];simp only[Fj,cond_false];rw[List.take_of_length_le (by simp)];rfl
 unfold KX;rw[Ac4 hg FJ];simp only[Option.bind_some];rw[show (([]:List Int),(0:Int))=([],((0:Nat):Int)) from rfl,hl];rfl
def Dx:List BY→Int
 | []=>0
 | s::r=>(if s.A1=true then s.AH else 0)+Dx r
theorem Px (l:List BY) (s:BY):Dx (l++[s])=Dx l+(if s.A1=true then s.AH else 0):=by
 induction l with
 | nil=>simp[Dx]
 | cons x r ih=>simp only[List.cons_append,Dx,ih];omega
theorem QR {nb:Nat} {l:List BY} (h:Ch nb l):∀k,k≤l.length→0≤Dx (l.take k)∧Dx (l.take k)≤4*k
 | 0,_=>by simp[Dx]
 | k+1,hk=>by
   have h1:=QR h k (by omega);obtain ⟨_,_,_,_,h5,h6,_⟩:=h k (by omega);rw[AR l k AP (by omega),Px];split<;>omega
def HW (n:Nt):List Bool:=List.replicate n.next.length false
def Si (n:Nt):GJ:=
 let w:=Dj n.next (HW n)
 let s:=Dx n.spurs
 ⟨((w.length:Nat):Int),w,s,if 0<w.length∧((w.length:Nat):Int) - 1<s then ((w.length:Nat):Int) - 1 else s⟩
theorem ME {g:List (List Int)} (hg:B8 g) (sh:List Bool):(Dj g sh).length≤25:=by
 have:=JW hg sh g.length (Nat.le_refl _);rw[List.take_of_length_le (by simp)] at this;exact this
theorem TH (n:Nt) (hs:Dd n):KF n=some (if validN n then (Si n,0) else (⟨0,[],0,0⟩,20)):=by
 unfold KF;have hv:=WG n hs;rw[show (⟨n.blocks,n.next,n.spurs,n.Al,n.cq,n.ca,n.cd,n.cp⟩:Nt)=n from rfl,hv];simp only[Option.bind_some];by_cases hn:validN n
 · obtain ⟨hg,_,hl⟩:=C4 hn;have EI:Ch n.blocks.length n.spurs:=hn.2.2.2.2.2.1;have h6:n.spurs.length≤6:=hn.2.1;have O4:=hg.1;rw[if_pos hn,decide_eq_true hn];have c1:decide (n.next.length<10000000)=true:=decide_eq_true (by omega);have hsl:AS (Lq n) (0,((0:Nat):Int))=some (Dx n.spurs,((n.spurs.length:Nat):Int)):=by
     refine Bw (step:=Lq n) n.spurs.length (fun k=>(Dx (n.spurs.take k),((k:Nat):Int))) _ (fun k hk=>?_) ?_
     · try dsimp only
       have hr:=QR EI k (by omega);obtain ⟨_,_,_,_,h5,h6,_⟩:=EI k hk;rw[Jl];simp only[D2 hk,cond_true,AU _ _ AP hk,Option.bind_some];rw[AR n.spurs k AP hk,Px,AZ (by omega)];cases hd:(n.spurs.getD k AP).A1
       · simp only[cond_false];simp
       · simp only[cond_true,if_true];rw[An (by omega) (by omega)]
     · try dsimp only
       rw[Jl];simp only[Fj,cond_false];rw[List.take_length]
   simp only[cond_true,c1];rw[Ac1 hg (by simp)];simp only[Option.bind_some];rw[show ((0:Int),(0:Int))=((0:Int),((0:Nat):Int)) from rfl,hsl];simp only[Option.bind_some];have hgl:=ME hg (List.replicate n.next.length false);unfold Si HW;dsimp only;by_cases c2:0<(Dj n.next (List.replicate n.next.length false)).length
   · rw[decide_eq_true (show (0:Int)<(((Dj n.next (List.replicate n.next.length false)).length:Nat):Int) by omega)];simp only[cond_true];rw[An (by omega) (by omega)];by_cases c3:(((Dj n.next (List.replicate n.next.length false)).length:Nat):Int) - 1<Dx n.spurs
     · rw[if_pos c3,if_pos ⟨c2,c3⟩]
     · rw[if_neg c3,if_neg (fun h=>c3 h.2)]
   · rw[decide_eq_false (show ¬(0:Int)<(((Dj n.next (List.replicate n.next.length false)).length:Nat):Int) by omega)];simp only[cond_false];rw[if_neg (fun h=>c2 h.1)]
 · rw[if_neg hn,decide_eq_false hn];simp only[cond_false]
def M8 (r:List UInt8):List UInt8:=[98,108,111,99,107,32,97,32,48,32,48,10,98,108,111,99,107,32,98,32,49,32,48,32,35,32,116,104,101,32,111,116,104,101,114,32,111,110,101,10,108,97,110,101,32,97,32,98,32,97,10,100,101,112,111,116,32,100,32,97,32,98,32,50,10]++r
def N3:List UInt8:=[114,111,98,111,116,32,100,32,50,10]
def N2:List UInt8:=[114,111,98,111,116,32,100,32,49,10,114,111,98,111,116,32,100,32,50,10]
def exN (l:List Int):Nt:=⟨[⟨[97],0,0⟩,⟨[98],1,0⟩],[[1],[0]],[⟨[100],true,0,1,2,2⟩],l,4,2,1,8⟩
theorem Axw:(BX (M8 N3)).2=(0,0):=by kernel_rfl
theorem Axv:(BX (M8 N2)).2=(0,0):=by kernel_rfl
theorem Axu:(parseV (BX (M8 N3)).1 []).2=(0,0):=by kernel_rfl
theorem Axt:(parseV (BX (M8 N2)).1 []).2=(0,0):=by kernel_rfl
theorem Ay0:nbuildV (parseV (BX (M8 N3)).1 []).1=(exN [3],0,0):=by kernel_rfl
theorem Axz:nbuildV (parseV (BX (M8 N2)).1 []).1=(exN [2,3],0,0):=by kernel_rfl
theorem Axs:validN (exN [3]):=by decide
theorem Axr:validN (exN [2,3]):=by decide
theorem Amt {g:List (List Int)} (hg:B8 g) {v:Nat} (hv:v<g.length):okR g.length v (g.getD v []):=fun k hk=>by
 have h:=hg.2 v hv k hk;unfold Hk at h;unfold okE;have h1:decide ((g.getD v []).getD k 0<0)=false:=decide_eq_false (by omega);have h2:decide ((g.length:Int)≤(g.getD v []).getD k 0)=false:=decide_eq_false (by omega);have h3:decide ((g.getD v []).getD k 0=(v:Int))=false:=decide_eq_false (by omega);rw[h1,h2,h3];by_cases c:k=0
 · rw[decide_eq_true c];rfl
 · have h4:decide ((g.getD v []).getD k 0≤(g.getD v []).getD (k - 1) 0)=false:=decide_eq_false (by have:=h.2.2.2 (by omega);omega);rw[h4];simp
theorem Aed {g:List (List Int)} (hg:B8 g) {sh:List Bool} (FJ:sh.length=g.length):La g sh=some (E5 g sh,0):=by
 have Bj:∀v,v<g.length→(g.getD v []).length≤2000000:=fun v hv=>by have:=GP hg hv;omega
 have B4:∀r∈g,r.length≤2000000:=fun r hr=>by
   obtain ⟨u,hu,rfl⟩:=List.mem_iff_getElem.1 hr;have e1:g.getD u []=g[u]:=getD_eq hu;have:=Bj u hu;rw[e1] at this;exact this
 have hc:Dt g sh=some 0:=by
   rw[Uu g sh Bj];have h1:=hg.1;have h2:∀v,v<g.length→okR g.length v (g.getD v []):=fun v hv=>Amt hg hv;rw[if_neg (by omega),if_pos (fun v hv=>decide_eq_true (h2 v hv)),if_pos FJ]
 unfold La;rw[if_pos B4,hc];rfl
theorem Abb (n:Nt) (hg:B8 n.next):KG n=some (!(E5 n.next (HW n)).all fun x=>decide (x=0)):=by
 have hn:=Ab4 n.next (HW n)
 have h1:=hg.1;unfold KG;have c1:decide (n.next.length<10000000)=true:=decide_eq_true (by omega);simp only[c1,cond_true];rw[Aed hg (by simp)];simp only[Option.bind_some]
 change (Option.bind (AS (Lr (E5 n.next (HW n))) 0) _)=_
 have hl:(E5 n.next (HW n)).length≤24:=by rw[hn.1];exact h1
 generalize E5 n.next (HW n)=l at hl
 have:=G3 (step:=Lr l) l.length (fun k=>((k:Nat):Int)) (Sum.inl ((l.length:Nat):Int)) (Sum.inr true) (fun k=>decide (l.getD k 0=0)) (fun k hk _=>?_) (fun _=>?_)
 · rw[show ((0:Nat):Int)=0 from rfl] at this;rw[this];by_cases c:∀j,j<l.length→decide (l.getD j 0=0)=true
   · rw[if_pos c];have:(l.all fun x=>decide (x=0))=true:=by
       rw[List.all_eq_true];intro x hx;obtain ⟨j,hj,rfl⟩:=List.mem_iff_getElem.1 hx;have e1:l.getD j 0=l[j]:=getD_eq hj;rw[←e1];exact c j hj
     rw[this];rfl
   · rw[if_neg c];have:(l.all fun x=>decide (x=0))=false:=by
       cases h:l.all fun x=>decide (x=0)
       · rfl
       · rw[List.all_eq_true] at h;refine absurd (fun j hj=>?_) c;have e1:l.getD j 0=l[j]:=getD_eq hj;rw[e1];exact h _ (List.getElem_mem hj)
     rw[this];rfl
 · rw[Jn];simp only[D2 hk,cond_true,AU _ _ 0 hk,Option.bind_some];rw[AZ (by omega)];by_cases c:l.getD k 0=0
   · simp only[decide_eq_true c,cond_true,if_true]
   · simp only[decide_eq_false c,cond_false];rfl
 · rw[Jn];simp only[Fj,cond_false]
theorem Auk:E5 [[1],[0]] [false,false]=[0,0]:=by
 have h01:Mf [[1],[0]] [false,false] 0 1:= .tail (.refl 0) ⟨by simp,rfl⟩;have Lx:Mf [[1],[0]] [false,false] 1 0:= .tail (.refl 1) ⟨by simp,rfl⟩;refine OP ⟨rfl,fun v hv=>?_⟩;have Qu:v=0∨v=1:=by simp only[List.length_cons,List.length_nil] at hv;omega
 rcases Qu with rfl | rfl
 · exact ⟨fun _=>⟨by decide,0,rfl,.refl 0,.refl 0,fun z _ _=>Nat.zero_le z⟩,fun h=>by cases h⟩
 · exact ⟨fun _=>⟨by decide,0,rfl,Lx,h01,fun z _ _=>Nat.zero_le z⟩,fun h=>by cases h⟩
theorem Auj:((BX (M8 N3)).1.length≤100∧∀x∈(BX (M8 N3)).1,x.fs.length≤100):=by
 have h:(decide ((BX (M8 N3)).1.length≤100)&&(BX (M8 N3)).1.all fun x=>decide (x.fs.length≤100))=true:=by kernel_rfl
 rw[Bool.and_eq_true,List.all_eq_true] at h;exact ⟨of_decide_eq_true h.1,fun x hx=>of_decide_eq_true (h.2 x hx)⟩
theorem Aui:((BX (M8 N2)).1.length≤100∧∀x∈(BX (M8 N2)).1,x.fs.length≤100):=by
 have h:(decide ((BX (M8 N2)).1.length≤100)&&(BX (M8 N2)).1.all fun x=>decide (x.fs.length≤100))=true:=by kernel_rfl
 rw[Bool.and_eq_true,List.all_eq_true] at h;exact ⟨of_decide_eq_true h.1,fun x hx=>of_decide_eq_true (h.2 x hx)⟩
theorem Axy:smallD (parseV (BX (M8 N3)).1 []).1:=by
 have h:(decide ((parseV (BX (M8 N3)).1 []).1.length≤100)&&(parseV (BX (M8 N3)).1 []).1.all fun x=>decide (x.names.length≤100)&&decide (x.AJ.length≤100))=true:=by kernel_rfl
 simp only[Bool.and_eq_true,List.all_eq_true,decide_eq_true_eq] at h;exact ⟨by omega,fun x hx=>by have:=h.2 x hx;omega⟩
theorem Axx:smallD (parseV (BX (M8 N2)).1 []).1:=by
 have h:(decide ((parseV (BX (M8 N2)).1 []).1.length≤100)&&(parseV (BX (M8 N2)).1 []).1.all fun x=>decide (x.names.length≤100)&&decide (x.AJ.length≤100))=true:=by kernel_rfl
 simp only[Bool.and_eq_true,List.all_eq_true,decide_eq_true_eq] at h;exact ⟨by omega,fun x hx=>by have:=h.2 x hx;omega⟩
theorem exC (l:List Int):Si (exN l)=⟨2,[0,1],2,1⟩:=by
 have h:Si (exN [])=⟨2,[0,1],2,1⟩:=by kernel_rfl
 exact h
theorem WO {s:List UInt8} {ls:List Ln} {d:List Dc} {n:Nt} (h1:BX s=(ls,0,0)) (hl:ls.length≤100000∧∀x∈ls,x.fs.length≤100000) (h2:parseV ls []=(d,0,0)) (hd:smallD d) (h3:nbuildV d=(n,0,0)) (hv:validN n):
   H0 s=some (if ((E5 n.next (HW n)).all fun x=>decide (x=0))=false then (⟨[],[],[],[],0,0,0,0⟩,⟨0,[],0,0⟩,0,17) else if (Si n).cap<((n.Al.length:Nat):Int) then (⟨[],[],[],[],0,0,0,0⟩,⟨0,[],0,0⟩,0,18) else (n,Si n,0,0)):=by
 have hs:=E0 hv;have hg:=(C4 hv).1;unfold H0 Rk;rw[h1];simp only[Option.bind_some,decide_true,cond_true];have hp:lParse_v ls=some (d,0,0):=by
   unfold lParse_v;rw[if_pos ⟨by omega,fun x hx=>by have:=hl.2 x hx;omega⟩,h2]
 have hb:lBuild_v d=some (n,0,0):=by
   unfold lBuild_v;rw[if_pos hd,h3]
 rw[hp];simp only[Option.bind_some,decide_true,cond_true];rw[hb];simp only[Option.bind_some,decide_true,cond_true];rw[show (⟨n.blocks,n.next,n.spurs,n.Al,n.cq,n.ca,n.cd,n.cp⟩:Nt)=n from rfl,TH n hs,if_pos hv,Abb n hg];simp only[Option.bind_some];cases (E5 n.next (HW n)).all fun x=>decide (x=0)
 · simp
 · simp only[Bool.not_true,cond_false];rw[if_neg (by simp)];by_cases c:(Si n).cap<((n.Al.length:Nat):Int)
   · rw[decide_eq_true c,if_pos c];rfl
   · rw[decide_eq_false c,if_neg c];rfl
theorem An2:H0 (M8 N3)=some (exN [3],⟨2,[0,1],2,1⟩,0,0):=by
 rw[WO (ls:=(BX (M8 N3)).1) (d:=(parseV (BX (M8 N3)).1 []).1) (n:=exN [3]) (by rw[←Axw]) ⟨by have:=Auj.1;omega,fun x hx=>by have:=Auj.2 x hx;omega⟩ (by rw[←Axu]) Axy Ay0 Axs,exC];rw[show E5 (exN [3]).next (HW (exN [3]))=[0,0] from Auk];rfl
theorem An1:H0 (M8 N2)=some (⟨[],[],[],[],0,0,0,0⟩,⟨0,[],0,0⟩,0,18):=by
 rw[WO (ls:=(BX (M8 N2)).1) (d:=(parseV (BX (M8 N2)).1 []).1) (n:=exN [2,3]) (by rw[←Axv]) ⟨by have:=Aui.1;omega,fun x hx=>by have:=Aui.2 x hx;omega⟩ (by rw[←Axt]) Axx Axz Axr,exC];rw[show E5 (exN [2,3]).next (HW (exN [2,3]))=[0,0] from Auk];rfl
noncomputable def Lp (r:List UInt8):Option (List UInt8):=if r.length≤1000 then some (M8 r) else none
theorem TF (r s:List UInt8) (h:Lp r=some s):Aj Tryz.prog 27 [.p (.str r)] [] fun h d=>h=[]∧d= .p (.str s):=by
 unfold Lp at h;split at h<;>cases h;rename_i hs;refine Ak Tryz.func27 rfl Ajd (by simp[Tryz.f27]) ?_;simp only[go_sem];refine ⟨by simp[maxLen];omega,?_⟩;simp only[go_sem,M8];rfl
noncomputable def NH:Option (Bool):=
 Option.bind (Lp [114,111,98,111,116,32,100,32,50,10]) fun x1=>Option.bind (H0 x1) fun (x3,x4,x5,x6)=>Option.bind (Lp [114,111,98,111,116,32,100,32,49,10,114,111,98,111,116,32,100,32,50,10]) fun x8=>Option.bind (H0 x8) fun (x10,BM,Yz,Tb)=>cond (decide (x6=0)) (cond (decide (x5=0)) (cond (decide (x4.IK=2)) (cond (decide (x4.cap=1)) (cond (decide (x4.AH=2)) (cond (decide (((x3.Al.length:Nat):Int)=1)) (some (decide (Tb=18))) (some false)) (some false)) (some false)) (some false)) (some false)) (some false)
theorem Zb (r:Bool) (hr:NH=some r):
   Aj Tryz.prog 8 [] [] fun h d=>h=[]∧d= .p (.bool r):=by
 refine Ak Tryz.func8 rfl An3 (by simp[Tryz.f8]) ?_;unfold NH at hr;obtain ⟨x1,g2,hr⟩:=bE hr;try simp only[go_sem]
 refine Au (TF [114,111,98,111,116,32,100,32,50,10] _ g2) ?_;rintro h' r ⟨rfl,rfl⟩;obtain ⟨⟨x3,x4,x5,x6⟩,g7,hr⟩:=bE hr;try simp only[go_sem]
 refine Au (TG x1 _ g7) ?_;rintro h' r ⟨rfl,rfl⟩;obtain ⟨x8,g9,hr⟩:=bE hr;try simp only[go_sem]
 refine Au (TF [114,111,98,111,116,32,100,32,49,10,114,111,98,111,116,32,100,32,50,10] _ g9) ?_;rintro h' r ⟨rfl,rfl⟩;obtain ⟨⟨x10,BM,Yz,Tb⟩,g14,hr⟩:=bE hr;try simp only[go_sem]
 refine Au (TG x8 _ g14) ?_;rintro h' r ⟨rfl,rfl⟩;cases H4:decide (x6=0)
 · simp only[H4,cond_false] at hr;obtain rfl:=Option.some.inj hr;try simp only[go_sem,H4]
   all_goals (try refine Ah ?_)
   all_goals (try simp only[go_sem,H4])
   all_goals (try (first | rfl | exact ⟨rfl,rfl⟩ | (simp;done)))
 simp only[H4,cond_true] at hr;cases Ip:decide (x5=0)
 · simp only[Ip,cond_false] at hr;obtain rfl:=Option.some.inj hr;try simp only[go_sem,H4,Ip]
   all_goals (try refine Ah ?_)
   all_goals (try simp only[go_sem,H4,Ip])
   all_goals (try (first | rfl | exact ⟨rfl,rfl⟩ | (simp;done)))
 simp only[Ip,cond_true] at hr;cases Na:decide (x4.IK=2)
 · simp only[Na,cond_false] at hr;obtain rfl:=Option.some.inj hr;try simp only[go_sem,H4,Ip,Na]
   all_goals (try refine Ah ?_)
   all_goals (try simp only[go_sem,H4,Ip,Na])
   all_goals (try (first | rfl | exact ⟨rfl,rfl⟩ | (simp;done)))
 simp only[Na,cond_true] at hr;cases Io:decide (x4.cap=1)
 · simp only[Io,cond_false] at hr;obtain rfl:=Option.some.inj hr;try simp only[go_sem,H4,Ip,Na,Io]
   all_goals (try refine Ah ?_)
   all_goals (try simp only[go_sem,H4,Ip,Na,Io])
   all_goals (try (first | rfl | exact ⟨rfl,rfl⟩ | (simp;done)))
 simp only[Io,cond_true] at hr;cases M9:decide (x4.AH=2)
 · simp only[M9,cond_false] at hr;obtain rfl:=Option.some.inj hr;try simp only[go_sem,H4,Ip,Na,Io,M9]
   all_goals (try refine Ah ?_)
   all_goals (try simp only[go_sem,H4,Ip,Na,Io,M9])
   all_goals (try (first | rfl | exact ⟨rfl,rfl⟩ | (simp;done)))
 simp only[M9,cond_true] at hr;cases c20:decide (((x3.Al.length:Nat):Int)=1)
 · simp only[c20,cond_false] at hr;obtain rfl:=Option.some.inj hr;try simp only[go_sem,H4,Ip,Na,Io,M9,c20]
   all_goals (try refine Ah ?_)
   all_goals (try simp only[go_sem,H4,Ip,Na,Io,M9,c20])
   all_goals (try (first | rfl | exact ⟨rfl,rfl⟩ | (simp;done)))
 simp only[c20,cond_true] at hr;obtain rfl:=Option.some.inj hr;try simp only[go_sem,H4,Ip,Na,Io,M9,c20]
 all_goals (try refine Ah ?_)
 all_goals (try simp only[go_sem,H4,Ip,Na,Io,M9,c20])
 all_goals (try (first | rfl | exact ⟨rfl,rfl⟩ | (simp;done)))
theorem Aba:NH=some true:=by
 have t1:Lp [114,111,98,111,116,32,100,32,50,10]=some (M8 N3):=rfl;have t2:Lp [114,111,98,111,116,32,100,32,49,10,114,111,98,111,116,32,100,32,50,10]=some (M8 N2):=rfl;unfold NH;rw[t1,t2];simp only[Option.bind_some];rw[An2,An1];rfl
theorem Ze:Aj Tryz.prog 8 [] [] fun h d=>h=[]∧d= .p (.bool true):=Zb true Aba
noncomputable def Ko (g:List (List Int)) (sh:List Bool):Option Int:=if g.length≤10000000∧∀r∈g,r.length≤10000000 then some (if B8 g then (if sh.length=g.length then 0 else 19) else 20) else none
theorem YV (g:List (List Int)) (sh:List Bool) (r:Int) (h:Ko g sh=some r):Aj Tryz.prog 68 [.p (.sl (AM g)),.p (.sl (Bf sh))] [] fun h d=>h=[]∧d= .p (.int .i64 r):=by unfold Ko at h;split at h<;>cases h;rename_i hs;exact Us g sh hs
noncomputable def Jb (g:List (List Int)) (sh:List Bool) (goal:Int):Option (List Int):=if B8 g∧sh.length=g.length∧0≤goal∧goal<(g.length:Int) then some (BG g sh goal.toNat) else none
theorem OL (g:List (List Int)) (sh:List Bool) (goal:Int) (r:List Int) (h:Jb g sh goal=some r):Aj Tryz.prog 123 [.p (.sl (AM g)),.p (.sl (Bf sh)),.p (.int .i64 goal)] [] fun h d=>h=[]∧d= .p (.sl (Ag r)):=by unfold Jb at h;split at h<;>cases h;rename_i hs;have:=Qz g sh goal.toNat hs.1 hs.2.1 (by omega);rw[show ((goal.toNat:Nat):Int)=goal by omega] at this;exact this
noncomputable def Kl (x1:List Int) (v7:Int) (u4:List Int):(List Int)×Int→Option (((List Int)×Int)⊕(((List Int)×Int)))
 | (v24,J4)=>cond (decide (0≤J4)) (Option.bind (A0 x1 v7) fun QE=>cond (decide (0<QE)) (Option.bind (A0 u4 J4) fun x37=>Option.bind (A0 x1 x37) fun x41=>cond (decide (x41=(IntKind.i64.wrap (QE - 1)))) (Option.bind (A0 v24 v7) fun VR=>some (Sum.inl ((v24.set (Int.toNat v7) x37),(IntKind.i64.wrap (J4 - 1))))) (some (Sum.inl (v24,(IntKind.i64.wrap (J4 - 1)))))) (some (Sum.inr (v24,J4)))) (some (Sum.inr (v24,J4)))
theorem HV (x1:List Int) (v7:Int) (u4:List Int) (v24:List Int) (J4:Int):Kl x1 v7 u4 (v24,J4)=cond (decide (0≤J4)) (Option.bind (A0 x1 v7) fun QE=>cond (decide (0<QE)) (Option.bind (A0 u4 J4) fun x37=>Option.bind (A0 x1 x37) fun x41=>cond (decide (x41=(IntKind.i64.wrap (QE - 1)))) (Option.bind (A0 v24 v7) fun VR=>some (Sum.inl ((v24.set (Int.toNat v7) x37),(IntKind.i64.wrap (J4 - 1))))) (some (Sum.inl (v24,(IntKind.i64.wrap (J4 - 1)))))) (some (Sum.inr (v24,J4)))) (some (Sum.inr (v24,J4))):=rfl
noncomputable def Nu (a0:List (List Int)) (x1:List Int):(List Int)×Int→Option (((List Int)×Int)⊕(((List Int)×Int)))
 | (v6,v7)=>cond (decide (v7<((a0.length:Nat):Int))) (Option.bind (A0 v6 v7) fun J8=>Option.bind (A0 a0 v7) fun u4=>Option.bind (AS (Kl x1 v7 u4) ((v6.set (Int.toNat v7) (-1)),(IntKind.i64.wrap (((u4.length:Nat):Int) - 1)))) (fun (v50,v51)=>some (Sum.inl (v50,(IntKind.i64.wrap (v7+1)))))) (some (Sum.inr (v6,v7)))
theorem PC (a0:List (List Int)) (x1:List Int) (v6:List Int) (v7:Int):Nu a0 x1 (v6,v7)=cond (decide (v7<((a0.length:Nat):Int))) (Option.bind (A0 v6 v7) fun J8=>Option.bind (A0 a0 v7) fun u4=>Option.bind (AS (Kl x1 v7 u4) ((v6.set (Int.toNat v7) (-1)),(IntKind.i64.wrap (((u4.length:Nat):Int) - 1)))) (fun (v50,v51)=>some (Sum.inl (v50,(IntKind.i64.wrap (v7+1)))))) (some (Sum.inr (v6,v7))):=rfl
noncomputable def Ns (a0:List (List Int)) (a1:List Bool) (a2:Int):Option ((List Int)):=
 Option.bind (Jb a0 a1 a2) fun x1=>cond (decide (a0.length<10000000)) (Option.bind (AS (Nu a0 x1) ((List.replicate a0.length 0),0)) (fun (v52,v53)=>some v52)) none
theorem Aan (a0:List (List Int)) (a1:List Bool) (a2:Int) (r:(List Int)) (hr:Ns a0 a1 a2=some r):
   Aj Tryz.prog 156 [.p (.sl (AM a0)),.p (.sl (Bf a1)),.p (.int .i64 a2)] [] fun h d=>h=[]∧d= .p (.sl (Ag r)):=by
 refine Ak Tryz.func156 rfl Ub (by simp[Tryz.f156]) ?_;unfold Ns at hr;obtain ⟨x1,g2,hr⟩:=bE hr;try simp only[go_sem]
 refine Au (OL a0 a1 a2 _ g2) ?_;rintro h' r ⟨rfl,rfl⟩;obtain ⟨c3,hr⟩:=gE hr;try simp only[go_sem]
 refine ⟨by have:=of_decide_eq_true c3;omega,?_⟩;obtain ⟨e11,g12,hr⟩:=bE hr;try simp only[go_sem]
 refine Bl g12 (fun q:(List Int)×Int=>⟨[(0,.p (.sl (AM a0))),(7,.p (.sl (Ag x1))),(8,.ref 18 0 q.1.length q.1.length),(9,.p (.int .i64 q.2))],[(18,.arr 3 1 (Ag q.1))],67⟩) ((Wk.forget (by simp[Le,AG,Av,get,Aa,Ac,Ad,D.ids,Ai,AO.ids,Ae,base,ZE]))) ?_;rintro ⟨v6,v7⟩ m10 Dz Zk;rw[PC] at Dz;cases MU:decide (v7<((a0.length:Nat):Int))
 · simp only[MU,cond_false] at Dz;simp only[Option.bind_some,Ar] at Dz;obtain rfl:=Option.some.inj Dz;try dsimp only at hr
   obtain rfl:=Option.some.inj hr;try simp only[go_sem,MU]
   all_goals (try refine Ah ?_)
   all_goals (try simp only[go_sem,MU])
   all_goals (try (first | rfl | exact ⟨rfl,rfl⟩ | (simp;done)))
 simp only[MU,cond_true] at Dz;obtain ⟨J8,g15,Dz⟩:=bK Dz;have f16:=AA g15;have f17:(Ag v6).getD (Int.toNat v7) []=[(.int .i64 J8)]:=AB _ g15;obtain ⟨u4,g19,Dz⟩:=bK Dz;have f20:=AA g19;have f21:(AM a0).getD (Int.toNat v7) []=[(.sl (Ag u4))]:=AB _ g19;obtain ⟨e29,g30,Dz⟩:=bK Dz;try simp only[go_sem,MU,f16,f17,f20,f21]
 refine Bl g30 (fun q:(List Int)×Int=>⟨[(0,.p (.sl (AM a0))),(7,.p (.sl (Ag x1))),(8,.ref 18 0 q.1.length q.1.length),(9,.p (.int .i64 v7)),(10,.p (.int .i64 q.2))],[(18,.arr 3 1 (Ag q.1))],67⟩) ((Wk.forget (by simp[Le,AG,Av,get,Aa,Ac,Ad,D.ids,Ai,AO.ids,Ae,base,ZE]))) ?_;rintro ⟨v24,J4⟩ m28 Ht Asn;rw[HV] at Ht;cases Ow:decide (0≤J4)
 · simp only[Ow,cond_false] at Ht;simp only[Option.bind_some,Ar] at Ht;obtain rfl:=Option.some.inj Ht;try dsimp only at Dz
   simp only[Option.bind_some,At] at Dz;try simp only[go_sem,Ow]
   exact Zk (v24,(IntKind.i64.wrap (v7+1))) _ Dz ((Wk.forget (by simp[Le,AG,Av,get,Aa,Ac,Ad,D.ids,Ai,AO.ids,Ae,base,ZE])))
 simp only[Ow,cond_true] at Ht;obtain ⟨QE,g33,Ht⟩:=bK Ht;have f34:=AA g33;have f35:(Ag x1).getD (Int.toNat v7) []=[(.int .i64 QE)]:=AB _ g33;cases c36:decide (0<QE)
 · simp only[c36,cond_false] at Ht;simp only[Option.bind_some,Ar] at Ht;obtain rfl:=Option.some.inj Ht;try dsimp only at Dz
   simp only[Option.bind_some,At] at Dz;try simp only[go_sem,Ow,f34,f35,c36]
   exact Zk (v24,(IntKind.i64.wrap (v7+1))) _ Dz ((Wk.forget (by simp[Le,AG,Av,get,Aa,Ac,Ad,D.ids,Ai,AO.ids,Ae,base,ZE])))
 simp only[c36,cond_true] at Ht;obtain ⟨x37,g38,Ht⟩:=bK Ht;have f39:=AA g38;have f40:(Ag u4).getD (Int.toNat J4) []=[(.int .i64 x37)]:=AB _ g38;try simp only[go_sem,Ow,f34,f35,c36,f20,f21,f39,f40]
 refine AY mixed (p:=[(0,0),(1,0),(2,0),(3,0),(4,0),(5,0),(6,0),(7,0),(8,0),(9,0)]) (by kernel_rfl) (by simp[Av,get]) ?_;obtain ⟨x41,g42,Ht⟩:=bK Ht;have f43:=AA g42;have f44:(Ag x1).getD (Int.toNat x37) []=[(.int .i64 x41)]:=AB _ g42;cases c45:decide (x41=(IntKind.i64.wrap (QE - 1)))
 · simp only[c45,cond_false] at Ht;simp only[Option.bind_some,At] at Ht;try simp only[go_sem,f43,f44,f34,f35,c45]
   exact Asn (v24,(IntKind.i64.wrap (J4 - 1))) _ Ht ((Wk.forget (by simp[Le,AG,Av,get,Aa,Ac,Ad,D.ids,Ai,AO.ids,Ae,base,ZE])))
 simp only[c45,cond_true] at Ht;obtain ⟨VR,g47,Ht⟩:=bK Ht;have f48:=AA g47;have f49:(Ag v24).getD (Int.toNat v7) []=[(.int .i64 VR)]:=AB _ g47;simp only[Option.bind_some,At] at Ht;try simp only[go_sem,f43,f44,f34,f35,c45,f48,f49]
 exact Asn ((v24.set (Int.toNat v7) x37),(IntKind.i64.wrap (J4 - 1))) _ Ht ((Wk.forget (by simp[Le,AG,Av,get,Aa,Ac,Ad,D.ids,Ai,AO.ids,Ae,base,ZE])))
noncomputable def OK (a3:Int) (x8:List Int):(List Int)×Int→Option (((List Int)×Int)⊕(((List Int)×Int)))
 | (v12,FT)=>cond (decide (FT=a3)) (some (Sum.inr (v12,FT))) (Option.bind (A0 x8 FT) fun Qn=>cond (decide (v12.length+1<10000000)) (some (Sum.inl ((v12++[Qn]),Qn))) none)
theorem Ja (a3:Int) (x8:List Int) (v12:List Int) (FT:Int):OK a3 x8 (v12,FT)=cond (decide (FT=a3)) (some (Sum.inr (v12,FT))) (Option.bind (A0 x8 FT) fun Qn=>cond (decide (v12.length+1<10000000)) (some (Sum.inl ((v12++[Qn]),Qn))) none):=rfl
noncomputable def Kn (a0:List (List Int)) (a1:List Bool) (a2:Int) (a3:Int):Option ((List Int)):=
 Option.bind (Jb a0 a1 a3) fun x1=>Option.bind (A0 x1 a2) fun x3=>cond (decide (x3<0)) (some []) (Option.bind (Ns a0 a1 a3) fun x8=>Option.bind (AS (OK a3 x8) ([a2],a2)) (fun (J4,v26)=>some J4))
theorem YU (a0:List (List Int)) (a1:List Bool) (a2:Int) (a3:Int) (r:(List Int)) (hr:Kn a0 a1 a2 a3=some r):
   Aj Tryz.prog 124 [.p (.sl (AM a0)),.p (.sl (Bf a1)),.p (.int .i64 a2),.p (.int .i64 a3)] [] fun h d=>h=[]∧d= .p (.sl (Ag r)):=by
 refine Ak Tryz.func124 rfl Ud (by simp[Tryz.f124]) ?_;unfold Kn at hr;obtain ⟨x1,g2,hr⟩:=bE hr;try simp only[go_sem]
 refine Au (OL a0 a1 a3 _ g2) ?_;rintro h' r ⟨rfl,rfl⟩;obtain ⟨x3,g4,hr⟩:=bE hr;have f5:=AA g4;have f6:(Ag x1).getD (Int.toNat a2) []=[(.int .i64 x3)]:=AB _ g4;cases c7:decide (x3<0)
 · simp only[c7,cond_false] at hr;obtain ⟨x8,g9,hr⟩:=bE hr;try simp only[go_sem,f5,f6,c7]
   refine Au (Aan a0 a1 a3 _ g9) ?_;rintro h' r ⟨rfl,rfl⟩;obtain ⟨e17,g18,hr⟩:=bE hr;try simp only[go_sem]
   refine Bl g18 (fun q:(List Int)×Int=>⟨[(2,.p (.int .i64 q.2)),(3,.p (.int .i64 a3)),(9,.p (.sl (Ag x8))),(10,.ref 24 0 q.1.length q.1.length)],[(24,.arr 3 1 (Ag q.1))],37⟩) ((Wk.forget (by simp[Le,AG,Av,get,Aa,Ac,Ad,D.ids,Ai,AO.ids,Ae,base,ZE]))) ?_;rintro ⟨v12,FT⟩ m16 CF Aq1;rw[Ja] at CF;cases M9:decide (FT=a3)
   · simp only[M9,cond_false] at CF;obtain ⟨Qn,g21,CF⟩:=bK CF;have f22:=AA g21;have f23:(Ag x8).getD (Int.toNat FT) []=[(.int .i64 Qn)]:=AB _ g21;obtain ⟨VE,CF⟩:=gK CF;try simp only[go_sem,M9,f22,f23]
     refine ⟨by have:=of_decide_eq_true VE;(try simp only[List.length_cons,List.length_nil,List.length_append] at*);(repeat' refine And.intro ?_ ?_)<;>first | exact Cf _ _ rfl | exact Gb _ | omega | (simp[I1];done),?_⟩;simp only[Option.bind_some,At] at CF;try simp only[go_sem]
     exact Aq1 ((v12++[Qn]),Qn) _ CF ((Wk.forget (by simp[Le,AG,Av,get,Aa,Ac,Ad,D.ids,Ai,AO.ids,Ae,base,ZE])))
   simp only[M9,cond_true] at CF;simp only[Option.bind_some,Ar] at CF;obtain rfl:=Option.some.inj CF;try dsimp only at hr
   obtain rfl:=Option.some.inj hr;try simp only[go_sem,M9]
   all_goals (try refine Ah ?_)
   all_goals (try simp only[go_sem,M9])
   all_goals (try (first | rfl | exact ⟨rfl,rfl⟩ | (simp;done)))
 simp only[c7,cond_true] at hr;obtain rfl:=Option.some.inj hr;try simp only[go_sem,f5,f6,c7]
 all_goals (try refine Ah ?_)
 all_goals (try simp only[go_sem,f5,f6,c7])
 all_goals (try (first | rfl | exact ⟨rfl,rfl⟩ | (simp;done)))
noncomputable def Nr (a0:List (List Int)) (a2:Int) (x6:List Int):Int×Int→Option ((Int×Int)⊕((Int×Int)))
 | (v10,v11)=>Option.bind (A0 a0 a2) fun Nc=>cond (decide (v11<((Nc.length:Nat):Int))) (Option.bind (A0 Nc v11) fun x28=>Option.bind (A0 x6 x28) fun QE=>cond (decide (0≤QE)) (cond (decide (v10<0)) (some (Sum.inl (x28,(IntKind.i64.wrap (v11+1))))) (Option.bind (A0 x6 v10) fun Yh=>cond (decide (QE<Yh)) (some (Sum.inl (x28,(IntKind.i64.wrap (v11+1))))) (some (Sum.inl (v10,(IntKind.i64.wrap (v11+1))))))) (some (Sum.inl (v10,(IntKind.i64.wrap (v11+1)))))) (some (Sum.inr (v10,v11)))
theorem Kk (a0:List (List Int)) (a2:Int) (x6:List Int) (v10:Int) (v11:Int):Nr a0 a2 x6 (v10,v11)=Option.bind (A0 a0 a2) fun Nc=>cond (decide (v11<((Nc.length:Nat):Int))) (Option.bind (A0 Nc v11) fun x28=>Option.bind (A0 x6 x28) fun QE=>cond (decide (0≤QE)) (cond (decide (v10<0)) (some (Sum.inl (x28,(IntKind.i64.wrap (v11+1))))) (Option.bind (A0 x6 v10) fun Yh=>cond (decide (QE<Yh)) (some (Sum.inl (x28,(IntKind.i64.wrap (v11+1))))) (some (Sum.inl (v10,(IntKind.i64.wrap (v11+1))))))) (some (Sum.inl (v10,(IntKind.i64.wrap (v11+1)))))) (some (Sum.inr (v10,v11))):=rfl
noncomputable def Lm (a0:List (List Int)) (a1:List Bool) (a2:Int):Option ((List Int)):=
 Option.bind (A0 a1 a2) fun x1=>cond x1 (some []) (Option.bind (Jb a0 a1 a2) fun x6=>Option.bind (AS (Nr a0 a2 x6) ((-1),0)) (fun (ER,v44)=>cond (decide (ER<0)) (some []) (Option.bind (Kn a0 a1 ER a2) fun VR=>cond (decide (0≤0∧0≤(IntKind.i64.wrap (((VR.length:Nat):Int) - 1))∧(IntKind.i64.wrap (((VR.length:Nat):Int) - 1))≤((VR.length:Nat):Int))) (cond (decide ([a2].length+(VR.take (Int.toNat (IntKind.i64.wrap (((VR.length:Nat):Int) - 1)))).length<10000000)) (some ([a2]++(VR.take (Int.toNat (IntKind.i64.wrap (((VR.length:Nat):Int) - 1)))))) none) none)))
theorem Aam (a0:List (List Int)) (a1:List Bool) (a2:Int) (r:(List Int)) (hr:Lm a0 a1 a2=some r):
   Aj Tryz.prog 86 [.p (.sl (AM a0)),.p (.sl (Bf a1)),.p (.int .i64 a2)] [] fun h d=>h=[]∧d= .p (.sl (Ag r)):=by
 refine Ak Tryz.func86 rfl Xo (by simp[Tryz.f86]) ?_;unfold Lm at hr;obtain ⟨x1,g2,hr⟩:=bE hr;have f3:=AA g2;have f4:(Bf a1).getD (Int.toNat a2) []=[(.bool x1)]:=AB _ g2;cases c5:x1
 · simp only[c5,cond_false] at hr;obtain ⟨x6,g7,hr⟩:=bE hr;try simp only[go_sem,f3,f4,c5]
   refine Au (OL a0 a1 a2 _ g7) ?_;rintro h' r ⟨rfl,rfl⟩;obtain ⟨e15,g16,hr⟩:=bE hr;try simp only[go_sem]
   refine Bl g16 (fun q:Int×Int=>⟨[(0,.p (.sl (AM a0))),(1,.p (.sl (Bf a1))),(2,.p (.int .i64 a2)),(7,.p (.sl (Ag x6))),(8,.p (.int .i64 q.1)),(9,.p (.int .i64 q.2))],[],72⟩) ((Wk.forget (by simp[Le,AG,Av,get,Aa,Ac,Ad,D.ids,Ai,AO.ids,Ae,base,ZE,c5]))) ?_;rintro ⟨v10,v11⟩ m14 CK Abo;rw[Kk] at CK;obtain ⟨Nc,g18,CK⟩:=bK CK;have f19:=AA g18;have f20:(AM a0).getD (Int.toNat a2) []=[(.sl (Ag Nc))]:=AB _ g18;cases c21:decide (v11<((Nc.length:Nat):Int))
   · simp only[c21,cond_false] at CK;simp only[Option.bind_some,Ar] at CK;obtain rfl:=Option.some.inj CK;try dsimp only at hr
     cases QA:decide (v10<0)
     · simp only[QA,cond_false] at hr;obtain ⟨VZ,g24,hr⟩:=bE hr;try simp only[go_sem,f19,f20,c21,QA]
       refine Au (YU a0 a1 v10 a2 _ g24) ?_;rintro h' r ⟨rfl,rfl⟩;obtain ⟨c25,hr⟩:=gE hr;have f26:=of_decide_eq_true c25;obtain ⟨s6,hr⟩:=gE hr;try simp only[go_sem,f26,Gb VZ]
       refine ⟨by have:=of_decide_eq_true s6;(try simp only[List.length_cons,List.length_nil,List.length_append] at*);(repeat' refine And.intro ?_ ?_)<;>first | exact Cf _ _ rfl | exact Gb _ | omega | (simp[I1];done),?_⟩;obtain rfl:=Option.some.inj hr;try simp only[go_sem]
       all_goals (try refine Ah ?_)
       all_goals (try simp only[go_sem])
       all_goals (try (first | rfl | exact ⟨rfl,rfl⟩ | (simp;done)))
     simp only[QA,cond_true] at hr;obtain rfl:=Option.some.inj hr;try simp only[go_sem,f19,f20,c21,QA]
     all_goals (try refine Ah ?_)
     all_goals (try simp only[go_sem,f19,f20,c21,QA])
     all_goals (try (first | rfl | exact ⟨rfl,rfl⟩ | (simp;done)))
   simp only[c21,cond_true] at CK;obtain ⟨x28,g29,CK⟩:=bK CK;have f30:=AA g29;have f31:(Ag Nc).getD (Int.toNat v11) []=[(.int .i64 x28)]:=AB _ g29;try simp only[go_sem,f19,f20,c21,f30,f31]
   refine AY mixed (p:=[(0,0),(1,0),(2,0),(3,0),(4,0),(5,0),(6,0),(7,0),(8,0),(9,0),(10,0),(11,0),(12,0),(13,0),(14,0),(15,0),(16,0),(17,0),(18,0),(19,0)]) (by kernel_rfl) (by simp[Av,get]) ?_;obtain ⟨QE,g33,CK⟩:=bK CK;have f34:=AA g33;have f35:(Ag x6).getD (Int.toNat x28) []=[(.int .i64 QE)]:=AB _ g33;cases c36:decide (0≤QE)
   · simp only[c36,cond_false] at CK;simp only[Option.bind_some,At] at CK;try simp only[go_sem,f34,f35,c36]
     exact Abo (v10,(IntKind.i64.wrap (v11+1))) _ CK ((Wk.forget (by simp[Le,AG,Av,get,Aa,Ac,Ad,D.ids,Ai,AO.ids,Ae,base,ZE,c5])))
   simp only[c36,cond_true] at CK;cases c37:decide (v10<0)
   · simp only[c37,cond_false] at CK;obtain ⟨Yh,g39,CK⟩:=bK CK;have f40:=AA g39;have f41:(Ag x6).getD (Int.toNat v10) []=[(.int .i64 Yh)]:=AB _ g39;cases c42:decide (QE<Yh)
     · simp only[c42,cond_false] at CK;simp only[Option.bind_some,At] at CK;try simp only[go_sem,f34,f35,c36,c37,f40,f41,c42]
       exact Abo (v10,(IntKind.i64.wrap (v11+1))) _ CK ((Wk.forget (by simp[Le,AG,Av,get,Aa,Ac,Ad,D.ids,Ai,AO.ids,Ae,base,ZE,c5])))
     simp only[c42,cond_true] at CK;simp only[Option.bind_some,At] at CK;try simp only[go_sem,f34,f35,c36,c37,f40,f41,c42]
     exact Abo (x28,(IntKind.i64.wrap (v11+1))) _ CK ((Wk.forget (by simp[Le,AG,Av,get,Aa,Ac,Ad,D.ids,Ai,AO.ids,Ae,base,ZE,c5])))
   simp only[c37,cond_true] at CK;simp only[Option.bind_some,At] at CK;try simp only[go_sem,f34,f35,c36,c37]
   exact Abo (x28,(IntKind.i64.wrap (v11+1))) _ CK ((Wk.forget (by simp[Le,AG,Av,get,Aa,Ac,Ad,D.ids,Ai,AO.ids,Ae,base,ZE,c5])))
 simp only[c5,cond_true] at hr;obtain rfl:=Option.some.inj hr;try simp only[go_sem,f3,f4,c5]
 all_goals (try refine Ah ?_)
 all_goals (try simp only[go_sem,f3,f4,c5])
 all_goals (try (first | rfl | exact ⟨rfl,rfl⟩ | (simp;done)))
noncomputable def Lo (a0:List (List Int)) (a1:List Bool):(List Int)×Int→Option (((List Int)×Int)⊕(((List Int)×Int)))
 | (v6,v7)=>cond (decide (v7<((a0.length:Nat):Int))) (Option.bind (Lm a0 a1 v7) fun J8=>cond (decide (0<((J8.length:Nat):Int))) (cond (decide (((v6.length:Nat):Int)=0)) (some (Sum.inl (J8,(IntKind.i64.wrap (v7+1))))) (cond (decide (((J8.length:Nat):Int)<((v6.length:Nat):Int))) (some (Sum.inl (J8,(IntKind.i64.wrap (v7+1))))) (some (Sum.inl (v6,(IntKind.i64.wrap (v7+1))))))) (some (Sum.inl (v6,(IntKind.i64.wrap (v7+1)))))) (some (Sum.inr (v6,v7)))
theorem I9 (a0:List (List Int)) (a1:List Bool) (v6:List Int) (v7:Int):Lo a0 a1 (v6,v7)=cond (decide (v7<((a0.length:Nat):Int))) (Option.bind (Lm a0 a1 v7) fun J8=>cond (decide (0<((J8.length:Nat):Int))) (cond (decide (((v6.length:Nat):Int)=0)) (some (Sum.inl (J8,(IntKind.i64.wrap (v7+1))))) (cond (decide (((J8.length:Nat):Int)<((v6.length:Nat):Int))) (some (Sum.inl (J8,(IntKind.i64.wrap (v7+1))))) (some (Sum.inl (v6,(IntKind.i64.wrap (v7+1))))))) (some (Sum.inl (v6,(IntKind.i64.wrap (v7+1)))))) (some (Sum.inr (v6,v7))):=rfl
noncomputable def Km (a0:List (List Int)) (a1:List Bool):Option (Int×(List Int)×Int):=
 Option.bind (Ko a0 a1) fun x1=>cond (decide (x1=0)) (Option.bind (AS (Lo a0 a1) ([],0)) (fun (j5,v20)=>some (((j5.length:Nat):Int),j5,0))) (some (0,[],x1))
theorem YT (a0:List (List Int)) (a1:List Bool) (r:Int×(List Int)×Int) (hr:Km a0 a1=some r):
   Aj Tryz.prog 47 [.p (.sl (AM a0)),.p (.sl (Bf a1))] [] fun h d=>h=[]∧d= .BA [.p (.int .i64 r.1),.p (.sl (Ag r.2.1)),.p (.int .i64 r.2.2)]:=by
 refine Ak Tryz.func47 rfl Xs (by simp[Tryz.f47]) ?_;unfold Km at hr;obtain ⟨x1,g2,hr⟩:=bE hr;try simp only[go_sem]
 refine Au (YV a0 a1 _ g2) ?_;rintro h' r ⟨rfl,rfl⟩;cases c3:decide (x1=0)
 · simp only[c3,cond_false] at hr;obtain rfl:=Option.some.inj hr;try simp only[go_sem,c3]
   all_goals (try refine Ah ?_)
   all_goals (try simp only[go_sem,c3])
   all_goals (try (first | rfl | exact ⟨rfl,rfl⟩ | (simp;done)))
 simp only[c3,cond_true] at hr;obtain ⟨e11,g12,hr⟩:=bE hr;try simp only[go_sem,c3]
 refine Bl g12 (fun q:(List Int)×Int=>⟨[(0,.p (.sl (AM a0))),(1,.p (.sl (Bf a1))),(8,.p (.sl (Ag q.1))),(9,.p (.int .i64 q.2))],[],46⟩) ((Wk.nil (t:=8) (q:=900008) (sz:=1) 3 rfl rfl (by decide)).trans ((Wk.pure (t:=8) (id:=900008) (sz:=1) (e:=3) (es:=[]) rfl rfl).trans ((Wk.forget (by simp[Le,AG,Av,get,Aa,Ac,Ad,D.ids,Ai,AO.ids,Ae,base,ZE]))))) ?_;rintro ⟨v6,v7⟩ m10 Dz Zk;rw[I9] at Dz;cases MU:decide (v7<((a0.length:Nat):Int))
 · simp only[MU,cond_false] at Dz;simp only[Option.bind_some,Ar] at Dz;obtain rfl:=Option.some.inj Dz;try dsimp only at hr
   obtain rfl:=Option.some.inj hr;try simp only[go_sem,MU]
   all_goals (try refine Ah ?_)
   all_goals (try simp only[go_sem,MU])
   all_goals (try (first | rfl | exact ⟨rfl,rfl⟩ | (simp;done)))
 simp only[MU,cond_true] at Dz;obtain ⟨J8,g15,Dz⟩:=bK Dz;try simp only[go_sem,MU]
 refine Au (Aam a0 a1 v7 _ g15) ?_;rintro h' r ⟨rfl,rfl⟩;cases Ip:decide (0<((J8.length:Nat):Int))
 · simp only[Ip,cond_false] at Dz;simp only[Option.bind_some,At] at Dz;try simp only[go_sem,Ip]
   exact Zk (v6,(IntKind.i64.wrap (v7+1))) _ Dz ((Wk.forget (by simp[Le,AG,Av,get,Aa,Ac,Ad,D.ids,Ai,AO.ids,Ae,base,ZE])))
 simp only[Ip,cond_true] at Dz;cases Na:decide (((v6.length:Nat):Int)=0)
 · simp only[Na,cond_false] at Dz;cases Io:decide (((J8.length:Nat):Int)<((v6.length:Nat):Int))
   · simp only[Io,cond_false] at Dz;simp only[Option.bind_some,At] at Dz;try simp only[go_sem,Ip,Na,Io]
     exact Zk (v6,(IntKind.i64.wrap (v7+1))) _ Dz ((Wk.forget (by simp[Le,AG,Av,get,Aa,Ac,Ad,D.ids,Ai,AO.ids,Ae,base,ZE])))
   simp only[Io,cond_true] at Dz;simp only[Option.bind_some,At] at Dz;try simp only[go_sem,Ip,Na,Io]
   exact Zk (J8,(IntKind.i64.wrap (v7+1))) _ Dz ((Wk.forget (by simp[Le,AG,Av,get,Aa,Ac,Ad,D.ids,Ai,AO.ids,Ae,base,ZE])))
 simp only[Na,cond_true] at Dz;simp only[Option.bind_some,At] at Dz;try simp only[go_sem,Ip,Na]
 exact Zk (J8,(IntKind.i64.wrap (v7+1))) _ Dz ((Wk.forget (by simp[Le,AG,Av,get,Aa,Ac,Ad,D.ids,Ai,AO.ids,Ae,base,ZE])))
theorem QZ {g:List (List Int)} (hg:B8 g) {sh:List Bool} (FJ:sh.length=g.length) {goal:Nat} (Cw:goal<g.length):Jb g sh (goal:Int)=some (BG g sh goal):=by
 unfold Jb;rw[if_pos ⟨hg,FJ,by omega,by omega⟩,show ((goal:Nat):Int).toNat=goal by omega]
theorem Abw {o row:List Int} {m:Int} {k:Nat} (hk:k<row.length):HO o (row.drop k) m=if o.getD (row.getD k 0).toNat 0=m then row.getD k 0 else HO o (row.drop (k+1)) m:=by
 have e1:row.getD k 0=row[k]:=getD_eq hk;rw[List.drop_eq_getElem_cons hk,←e1];unfold HO;rw[List.find?_cons];by_cases c:o.getD (row.getD k 0).toNat 0=m
 · rw[decide_eq_true c,if_pos c];rfl
 · rw[decide_eq_false c,if_neg c]
def W6 (g:List (List Int)) (o:List Int) (u:Nat):Int:=if 0<o.getD u 0 then HO o (g.getD u []) (o.getD u 0 - 1) else -1
theorem Ag4 {g:List (List Int)} (hg:B8 g) {o:List Int} (ho:o.length=g.length) (hr:∀u,u<g.length→-1≤o.getD u 0∧o.getD u 0≤24) {u:Nat} (hu:u<g.length) {out:List Int} (Qe:out.length=g.length):
   ∃k,AS (Kl o (u:Int) (g.getD u [])) (out.set u (-1),IntKind.i64.wrap ((((g.getD u []).length:Nat):Int) - 1))=some (out.set u (W6 g o u),k):=by
 have hl:=GP hg hu;have hru:=hr u hu;have NL:IntKind.i64.wrap (o.getD u 0 - 1)=o.getD u 0 - 1:=by
   rw[IntKind.wrap_i64];omega
 have D5:∀i:Nat,i≤25→IntKind.i64.wrap ((i:Int) - 1)=(i:Int) - 1:=fun i hi=>by
   rw[IntKind.wrap_i64];omega
 unfold W6;by_cases c:0<o.getD u 0
 · rw[if_pos c];have key:=Bw (step:=Kl o (u:Int) (g.getD u [])) (g.getD u []).length
     (fun i=>(out.set u (HO o ((g.getD u []).drop ((g.getD u []).length - i)) (o.getD u 0 - 1)),(((g.getD u []).length - i:Nat):Int) - 1))
     (out.set u (HO o (g.getD u []) (o.getD u 0 - 1)),-1) (fun i hi=>?_) ?_
   · refine ⟨-1,?_⟩;rw[D5 _ (by omega)];simp only[Nat.sub_zero,List.drop_length] at key;exact key
   · try dsimp only
     rw[HV];have hk:(g.getD u []).length - (i+1)<(g.getD u []).length:=by omega
     have e2:(((g.getD u []).length - i:Nat):Int) - 1=(((g.getD u []).length - (i+1):Nat):Int):=by omega
     have hm:(g.getD u []).getD ((g.getD u []).length - (i+1)) 0∈g.getD u []:=by
       have e1:(g.getD u []).getD ((g.getD u []).length - (i+1)) 0=(g.getD u [])[(g.getD u []).length - (i+1)]:=getD_eq hk;rw[e1];exact List.getElem_mem hk
     have hrr:=Eo hg hu hm;have i1:=AU o u 0 (by omega);have i2:=AU (g.getD u []) ((g.getD u []).length - (i+1)) 0 hk;have i3:=IF (l:=o) hrr.1 (by omega);have i4:=AU (out.set u (HO o ((g.getD u []).drop ((g.getD u []).length - i)) (o.getD u 0 - 1))) u 0 (by simp;omega);rw[e2];have c0:decide ((0:Int)≤(((g.getD u []).length - (i+1):Nat):Int))=true:=decide_eq_true (by omega);simp only[c0,cond_true,i1,Option.bind_some,decide_eq_true c,i2,i3,NL];have hd:=Abw (o:=o) (row:=g.getD u []) (m:=o.getD u 0 - 1) hk;rw[show (g.getD u []).length - (i+1)+1=(g.getD u []).length - i by omega] at hd;rw[hd];by_cases c2:o.getD ((g.getD u []).getD ((g.getD u []).length - (i+1)) 0).toNat 0=o.getD u 0 - 1
     · simp only[decide_eq_true c2,cond_true,i4,Option.bind_some];rw[D5 _ (by omega),if_pos c2,show ((u:Nat):Int).toNat=u by omega,List.set_set]
     · simp only[decide_eq_false c2,cond_false];rw[D5 _ (by omega),if_neg c2]
   · try dsimp only
     rw[HV];have c0:decide ((0:Int)≤(((g.getD u []).length - (g.getD u []).length:Nat):Int) - 1)=false:=decide_eq_false (by omega);simp only[c0,cond_false];simp
 · rw[if_neg c,D5 _ (by omega)];rw[Bx,HV];have i1:=AU o u 0 (by omega);by_cases c1:(0:Int)≤((((g.getD u []).length:Nat):Int)) - 1
   · simp only[decide_eq_true c1,cond_true,i1,Option.bind_some,decide_eq_false c,cond_false,Ar];exact ⟨_,rfl⟩
   · simp only[decide_eq_false c1,cond_false,Option.bind_some,Ar];exact ⟨_,rfl⟩
theorem Ag3 {g:List (List Int)} (hg:B8 g) {sh:List Bool} (FJ:sh.length=g.length) {goal:Nat} (Cw:goal<g.length):
   ∃h,Ns g sh (goal:Int)=some h∧h.length=g.length∧∀u,u<g.length→h.getD u 0=W6 g (BG g sh goal) u:=by
 have O4:=hg.1;have ho:=IY g sh goal;have hr:∀u,u<g.length→-1≤(BG g sh goal).getD u 0∧(BG g sh goal).getD u 0≤24:=fun u hu=>G6 hg sh Cw hu;unfold Ns;rw[QZ hg FJ Cw];generalize BG g sh goal=o at*;have c1:decide (g.length<10000000)=true:=decide_eq_true (by omega);simp only[Option.bind_some,c1,cond_true];obtain ⟨e,h1,h2⟩:∃e,AS (Nu g o) (List.replicate g.length 0,0)=some e∧(e.1.length=g.length∧∀u,u<g.length→e.1.getD u 0=W6 g o u):=by
   refine OR (step:=Nu g o) (fun s=>∃v:Nat,s.2=(v:Int)∧v≤g.length∧s.1.length=g.length∧∀u,u<v→s.1.getD u 0=W6 g o u) (fun s=>g.length - s.2.toNat)
     (fun e=>e.1.length=g.length∧∀u,u<g.length→e.1.getD u 0=W6 g o u) (fun s hs=>?_) (List.replicate g.length 0,0) ⟨0,rfl,by omega,by simp,fun u hu=>by omega⟩
   obtain ⟨out,i⟩:=s;obtain ⟨v,h3,h4,h5,h6⟩:=hs;dsimp only at h3 h4 h5 h6;subst h3;rw[PC];by_cases hv:v<g.length
   · have i1:=AU out v 0 (by omega);have i2:=AU g v [] hv;simp only[D2 hv,cond_true,i1,i2,Option.bind_some];rw[show ((v:Nat):Int).toNat=v by omega];obtain ⟨k,hk⟩:=Ag4 hg ho hr hv h5;rw[hk];simp only[Option.bind_some];rw[AZ (by omega)];refine ⟨_,rfl,⟨v+1,rfl,hv,by simpa using h5,fun u hu=>?_⟩,by dsimp only;omega⟩;dsimp only;rw[DU _ _ _ _ _ (by omega)];by_cases e:u=v
     · rw[if_pos e,e]
     · rw[if_neg e];exact h6 u (by omega)
   · have e1:v=g.length:=by omega
     subst e1;simp only[Fj,cond_false];exact ⟨_,rfl,h5,h6⟩
 rw[h1];exact ⟨_,rfl,h2⟩
theorem Tq {g:List (List Int)} (hg:B8 g) {sh:List Bool} {goal:Nat} {o:List Int} (ho:DS g sh goal o) {h:List Int} (hh:h.length=g.length) (hf:∀u,u<g.length→h.getD u 0=W6 g o u):∀(f b:Nat) (W:List Int),b<g.length→o.getD b 0=(f:Int)→W.length+f+1≤1000→
   AS (OK (goal:Int) h) (W++[(b:Int)],(b:Int))=some (W++LM g o f (b:Int)++[(goal:Int)],(goal:Int))
 | 0,b,W,hb,hd,hW=>by
   have e:b=goal:=(ho.zero b hb).1 hd;subst e;rw[Bx,Ja];simp only[decide_true,cond_true,Option.bind_some,Ar,LM,List.append_nil]
 | f+1,b,W,hb,hd,hW=>by
   have BC:b≠goal:=fun e=>by have:=(ho.zero b hb).2 e;omega
   obtain ⟨h1,h2,h3⟩:=ho.II hg hb (by omega);have hx:=hf b hb;unfold W6 at hx;rw[if_pos (by omega)] at hx;rw[Bx,Ja];have c1:decide ((b:Int)=(goal:Int))=false:=decide_eq_false (by omega);have c2:decide ((W++[(b:Int)]).length+1<10000000)=true:=decide_eq_true (by simp only[List.length_append,List.length_singleton];omega);have i1:=AU h b 0 (by omega);simp only[c1,c2,cond_false,cond_true,i1,Option.bind_some,At];rw[hx,LM,show ((b:Nat):Int).toNat=b by omega];generalize HO o (g.getD b []) (o.getD b 0 - 1)=x at*;have ih:=Tq hg ho hh hf f x.toNat (W++[(b:Int)]) (by omega) (by omega) (by simp only[List.length_append,List.length_singleton];omega);rw[show ((x.toNat:Nat):Int)=x by omega] at ih;rw[ih];simp
theorem Ag1 {g:List (List Int)} (hg:B8 g) {o:List Int} (ho:o.length=g.length) {u:Nat} (hu:u<g.length):
   AS (Nr g (u:Int) o) (-1,0)=some (Gj o (g.getD u []),(((g.getD u []).length:Nat):Int)):=by
 have hl:=GP hg hu;have i0:=AU g u [] hu;have key:=Bw (step:=Nr g (u:Int) o) (g.getD u []).length (fun k=>(((g.getD u []).take k).foldl (DY o) (-1),((k:Nat):Int))) (Gj o (g.getD u []),(((g.getD u []).length:Nat):Int)) (fun k hk=>?_) ?_
 · simpa using key
 · try dsimp only
   have hm:(g.getD u []).getD k 0∈g.getD u []:=by
     have e1:(g.getD u []).getD k 0=(g.getD u [])[k]:=getD_eq hk;rw[e1];exact List.getElem_mem hk
   have hr:=Eo hg hu hm;rw[Kk];have i2:=IF (l:=o) hr.1 (by omega);simp only[i0,D2 hk,cond_true,AU _ _ 0 hk,Option.bind_some,i2];rw[AR _ k 0 hk,List.foldl_append,List.foldl_cons,List.foldl_nil];have hb:=G8 o ((g.getD u []).take k) (-1);generalize ((g.getD u []).take k).foldl (DY o) (-1)=b at hb;generalize hx:(g.getD u []).getD k 0=x at*;unfold DY;by_cases c1:0≤o.getD x.toNat 0
   · simp only[decide_eq_true c1,cond_true];by_cases c2:b<0
     · simp only[decide_eq_true c2,cond_true];rw[AZ (by omega),if_pos ⟨c1,.inl c2⟩]
     · have SI:b∈g.getD u []:=by
         rcases hb with h | h
         · omega
         · exact List.mem_of_mem_take h.1
       have hbr:=Eo hg hu SI;have i3:=IF (l:=o) hbr.1 (by omega);simp only[decide_eq_false c2,cond_false,i3,Option.bind_some];by_cases c3:o.getD x.toNat 0<o.getD b.toNat 0
       · simp only[decide_eq_true c3,cond_true];rw[AZ (by omega),if_pos ⟨c1,.inr c3⟩]
       · simp only[decide_eq_false c3,cond_false];rw[AZ (by omega),if_neg (by rintro ⟨_,h | h⟩;exact c2 h;exact c3 h)]
   · simp only[decide_eq_false c1,cond_false];rw[AZ (by omega),if_neg (fun h=>c1 h.1)]
 · try dsimp only
   rw[Kk,List.take_length];simp only[i0,Option.bind_some,Fj,cond_false];rfl
theorem Ag0 {g:List (List Int)} (hg:B8 g) {sh:List Bool} (FJ:sh.length=g.length) {v:Nat} (hv:v<g.length):Lm g sh (v:Int)=some (D7 g sh v):=by
 unfold Lm D7;have i1:=AU sh v false (by omega);simp only[i1,Option.bind_some];cases hs:sh.getD v false
 · simp only[cond_false];rw[QZ hg FJ hv];obtain ⟨h,hh1,hh2,L9⟩:=Ag3 hg FJ hv;have hq:=QZ hg FJ hv;have ho:=Sb hg hv hs;have W4:=fun {u:Nat} (hu:u<g.length)=>G6 hg sh hv hu;generalize BG g sh v=o at ho W4 L9 hq;simp only[Option.bind_some];rw[Ag1 hg ho.len hv];simp only[Option.bind_some];rw[if_neg (by simp)];have hb:=G8 o (g.getD v []) (-1)
   change Gj o (g.getD v [])=-1∨(Gj o (g.getD v [])∈g.getD v []∧0≤o.getD (Gj o (g.getD v [])).toNat 0) at hb
   generalize Gj o (g.getD v [])=b at*;by_cases c1:b<0
   · simp only[decide_eq_true c1,cond_true];rw[if_pos c1]
   · have SI:b∈g.getD v []∧0≤o.getD b.toNat 0:=by
       rcases hb with h | h
       · omega
       · exact h
     have hr:=Eo hg hv SI.1;have hle:=W4 (u:=b.toNat) (by omega);have Aqm:Kn g sh b (v:Int)=some (LM g o (o.getD b.toNat 0).toNat b++[(v:Int)]):=by
       unfold Kn;have i2:=IF (l:=o) hr.1 (by rw[ho.len];omega);have c2:decide (o.getD b.toNat 0<0)=false:=decide_eq_false (by omega);rw[hq];simp only[Option.bind_some,i2,c2,cond_false,hh1];have:=Tq hg ho hh2 L9 (o.getD b.toNat 0).toNat b.toNat [] (by omega) (by omega) (by simp only[List.length_nil];omega);rw[show ((b.toNat:Nat):Int)=b by omega] at this;simp only[List.nil_append] at this;rw[this];rfl
     rw[if_neg c1];simp only[decide_eq_false c1,cond_false];rw[Aqm];simp only[Option.bind_some];have hlen:(LM g o (o.getD b.toNat 0).toNat b++[(v:Int)]).length=(o.getD b.toNat 0).toNat+1:=by
       rw[List.length_append,Is];rfl
     have hw:IntKind.i64.wrap ((((o.getD b.toNat 0).toNat+1:Nat):Int) - 1)=(((o.getD b.toNat 0).toNat:Nat):Int):=by
       rw[IntKind.wrap_i64];omega
     rw[hlen,hw];rw[show (((o.getD b.toNat 0).toNat:Nat):Int).toNat=(o.getD b.toNat 0).toNat by omega];have ht:(LM g o (o.getD b.toNat 0).toNat b++[(v:Int)]).take (o.getD b.toNat 0).toNat=LM g o (o.getD b.toNat 0).toNat b:=by
       rw[List.take_append_of_le_length (by rw[Is];omega),List.take_of_length_le (by rw[Is];omega)]
     rw[ht];have hwl:=Is g o (o.getD b.toNat 0).toNat b;have c4:decide ((0:Nat)≤0∧(0:Int)≤(((o.getD b.toNat 0).toNat:Nat):Int)∧(((o.getD b.toNat 0).toNat:Nat):Int)≤(((o.getD b.toNat 0).toNat+1:Nat):Int))=true:=decide_eq_true (by omega);have c5:decide ([(v:Int)].length+(LM g o (o.getD b.toNat 0).toNat b).length<10000000)=true:=decide_eq_true (by rw[hwl];simp only[List.length_singleton];omega);simp only[c4,c5,cond_true];rfl
 · simp only[cond_true,if_true]
theorem Aao {g:List (List Int)} (hg:B8 g) {sh:List Bool} (FJ:sh.length=g.length):Km g sh=some ((((Dj g sh).length:Nat):Int),Dj g sh,0):=by
 have hl:AS (Lo g sh) ([],((0:Nat):Int))=some (Dj g sh,((g.length:Nat):Int)):=by
   refine Bw (step:=Lo g sh) g.length (fun k=>((((List.range g.length).map (D7 g sh)).take k).foldl Ju [],((k:Nat):Int))) _ (fun k hk=>?_) ?_
   · try dsimp only
     rw[I9];simp only[D2 hk,cond_true];rw[Ag0 hg FJ hk];simp only[Option.bind_some];have e1:((List.range g.length).map (D7 g sh)).getD k []=D7 g sh k:=by
       rw[getD_map' (D7 g sh) _ k 0 [] (by simpa using hk)];simp[List.getD,List.getElem?_range hk]
     rw[AR _ k [] (by simpa using hk),List.foldl_append,List.foldl_cons,List.foldl_nil,e1];generalize (((List.range g.length).map (D7 g sh)).take k).foldl Ju []=b;generalize D7 g sh k=x;have hw:=AZ (n:=k) (by have:=hg.1;omega);rw[hw];unfold Ju;by_cases c1:0<x.length
     · simp only[decide_eq_true (show (0:Int)<((x.length:Nat):Int) by omega),cond_true];by_cases c0:b.length=0
       · simp only[decide_eq_true (show ((b.length:Nat):Int)=0 by omega),cond_true];rw[if_pos ⟨c1,.inl c0⟩]
       · simp only[decide_eq_false (show ¬((b.length:Nat):Int)=0 by omega),cond_false];by_cases c2:x.length<b.length
         · simp only[decide_eq_true (show ((x.length:Nat):Int)<((b.length:Nat):Int) by omega),cond_true];rw[if_pos ⟨c1,.inr c2⟩]
         · simp only[decide_eq_false (show ¬((x.length:Nat):Int)<((b.length:Nat):Int) by omega),cond_false];rw[if_neg (by rintro ⟨_,h | h⟩;exact c0 h;exact c2 h)]
     · simp only[decide_eq_false (show ¬(0:Int)<((x.length:Nat):Int) by omega),cond_false];rw[if_neg (fun h=>c1 h.1)]
   · try dsimp only
     rw[I9];simp only[Fj,cond_false];rw[List.take_of_length_le (by simp)];rfl
 have Zq:g.length≤10000000∧∀r∈g,r.length≤10000000:=⟨by have:=hg.1;omega,fun r hr=>by
   obtain ⟨u,hu,rfl⟩:=List.mem_iff_getElem.1 hr;have e1:g.getD u []=g[u]:=getD_eq hu;have:=GP hg hu;rw[e1] at this;omega⟩
 have hc:Ko g sh=some 0:=by
   unfold Ko;rw[if_pos Zq,if_pos hg,if_pos FJ]
 unfold Km;rw[hc];simp only[Option.bind_some];rw[show (([]:List Int),(0:Int))=([],((0:Nat):Int)) from rfl,hl];rfl
noncomputable def Lk (a0:GJ) (a1:GJ):Option (Bool):=
 cond (decide (a0.IK=a1.IK)) (Option.bind (Ec a0.JX a1.JX) fun x2=>cond x2 (cond (decide (a0.AH=a1.AH)) (some (decide (a0.cap=a1.cap))) (some false)) (some false)) (some false)
theorem Wu (a0:GJ) (a1:GJ) (r:Bool) (hr:Lk a0 a1=some r):
   Aj Tryz.prog 13 [.agg [.p (.int .i64 a0.IK),.p (.sl (Ag a0.JX)),.p (.int .i64 a0.AH),.p (.int .i64 a0.cap)],.agg [.p (.int .i64 a1.IK),.p (.sl (Ag a1.JX)),.p (.int .i64 a1.AH),.p (.int .i64 a1.cap)]] [] fun h d=>h=[]∧d= .p (.bool r):=by
 refine Ak Tryz.func13 rfl Ajm (by simp[Tryz.f13]) ?_;unfold Lk at hr;cases c1:decide (a0.IK=a1.IK)
 · simp only[c1,cond_false] at hr;obtain rfl:=Option.some.inj hr;try simp only[go_sem,c1]
   all_goals (try refine Ah ?_)
   all_goals (try simp only[go_sem,c1])
   all_goals (try (first | rfl | exact ⟨rfl,rfl⟩ | (simp;done)))
 simp only[c1,cond_true] at hr;obtain ⟨x2,g3,hr⟩:=bE hr;try simp only[go_sem,c1]
 refine Au (Qb a0.JX a1.JX _ g3) ?_;rintro h' r ⟨rfl,rfl⟩;cases c4:x2
 · simp only[c4,cond_false] at hr;obtain rfl:=Option.some.inj hr;try simp only[go_sem,c1,c4]
   all_goals (try refine Ah ?_)
   all_goals (try simp only[go_sem,c1,c4])
   all_goals (try (first | rfl | exact ⟨rfl,rfl⟩ | (simp;done)))
 simp only[c4,cond_true] at hr;cases c5:decide (a0.AH=a1.AH)
 · simp only[c5,cond_false] at hr;obtain rfl:=Option.some.inj hr;try simp only[go_sem,c1,c4,c5]
   all_goals (try refine Ah ?_)
   all_goals (try simp only[go_sem,c1,c4,c5])
   all_goals (try (first | rfl | exact ⟨rfl,rfl⟩ | (simp;done)))
 simp only[c5,cond_true] at hr;obtain rfl:=Option.some.inj hr;try simp only[go_sem,c1,c4,c5]
 all_goals (try refine Ah ?_)
 all_goals (try simp only[go_sem,c1,c4,c5])
 all_goals (try (first | rfl | exact ⟨rfl,rfl⟩ | (simp;done)))
def Nt.pd (n:Nt):List Pd:=[.sl (Bi n.blocks),.sl (AM n.next),.sl (Bh n.spurs),.sl (Ag n.Al),.int .i64 n.cq,.int .i64 n.ca,.int .i64 n.cd,.int .i64 n.cp]
theorem dt {a:Prop} [Decidable a] (h:a):decide a=true:=decide_eq_true h
theorem SM (l:List Int) (h:l.length≤10000000):Ec l l=some true:=by
 have hl:=Bw (step:=Ho l l) l.length (fun k=>(k:Int)) (Sum.inl ((l.length:Nat):Int))
   (fun k hk=>by
     rw[E6,D2 hk,cond_true,AU l k 0 hk];simp only[Option.bind_some];simp only[decide_true,cond_true,Option.bind_some,Bool.and_self,beq_self_eq_true,eq_self_iff_true,Bool.true_and];rw[AZ (by omega)])
   (by rw[E6,Fj,cond_false])
 unfold Ec;rw[dt rfl,cond_true,show (0:Int)=((0:Nat):Int) from rfl,hl,Option.bind_some]
theorem filter_one {α:Type} (p:α→Bool) (x0:α):∀(l:List α) (j:Nat),j<l.length→p (l.getD j x0)=true→(∀k,k<l.length→k≠j→p (l.getD k x0)=false)→l.filter p=[l.getD j x0]
 | [],j,h,_,_=>by simp at h
 | x::r,0,_,h,hu=>by
   have hx:p x=true:=h;rw[List.filter_cons_of_pos hx];have:r.filter p=[]:=by
     rw[List.filter_eq_nil_iff];intro y hy;obtain ⟨k,hk,rfl⟩:=List.mem_iff_getElem.1 hy;have:=hu (k+1) (by simp;omega) (by omega);rw[List.getD_cons_succ,gde hk] at this;simp[this]
   rw[this];rfl
 | x::r,j+1,hj,h,hu=>by
   have hx:p x=false:=hu 0 (by simp) (by omega);rw[List.filter_cons_of_neg (by simp[hx])];exact filter_one p x0 r j (by simpa using hj) (by simpa using h) (fun k hk BC=>by have:=hu (k+1) (by simpa using hk) (by omega);simpa using this)
theorem OC (nb:Nat) (l:List BY) (h:Ch nb l):∀(b a:Nat),a≤b→b≤l.length→BV (l.take a)≤BV (l.take b)
 | 0,a,ha,_=>by
   have:a=0:=by omega
   subst this;exact Int.le_refl _
 | b+1,a,ha,hb=>by
   rcases Nat.lt_or_ge b a with h1 | h1
   · have:a=b+1:=by omega
     subst this;exact Int.le_refl _
   · have h2:=OC nb l h b a h1 (by omega);have h3:=(h b (by omega)).2.2.2.2.1;rw[AR l b AP (by omega),Cx];omega
theorem o7 {nb:Nat} {l:List BY} (h:Ch nb l) {i:Nat} (hi:i<l.length) {r:Int} (h1:Qt r (l.getD i AP)=true):(nb:Int)+BV (l.take i)≤r∧r<(nb:Int)+BV (l.take (i+1)):=by
 have h2:=(h i hi).2.2.2.2.2.2;rw[AR l i AP hi,Cx];simp only[Qt,Bool.and_eq_true,decide_eq_true_eq] at h1;rw[h2] at h1;omega
theorem o8 {nb:Nat} {l:List BY} (h:Ch nb l) {i j:Nat} (hi:i<l.length) (hj:j<l.length) {r:Int} (h1:Qt r (l.getD i AP)=true) (h2:Qt r (l.getD j AP)=true):i=j:=by
 have a:=o7 h hi h1;have b:=o7 h hj h2;rcases Nat.lt_trichotomy i j with c | c | c
 · have:=OC nb l h j (i+1) (by omega) (by omega);omega
 · exact c
 · have:=OC nb l h i (j+1) (by omega) (by omega);omega
theorem Wx {nb:Nat} {sp:List BY} (h:Ch nb sp) {rb:List Int} (hr:CJ sp rb) {k:Nat} (hk:k<rb.length):
   ∃j,j<sp.length∧Qt (rb.getD k 0) (sp.getD j AP)=true∧(sp.getD j AP).A1=true∧sp.filter (Qt (rb.getD k 0))=[sp.getD j AP]:=by
 have h1:=(hr k hk).1;rw[List.any_eq_true] at h1;obtain ⟨s,hs,h2⟩:=h1;obtain ⟨j,hj,rfl⟩:=List.mem_iff_getElem.1 hs;have e:sp.getD j AP=sp[j]:=gde hj;simp only[Lt,Bool.and_eq_true] at h2;have h3:Qt (rb.getD k 0) (sp.getD j AP)=true:=by rw[e];simp only[Qt,Bool.and_eq_true];exact h2.2
 refine ⟨j,hj,h3,by rw[e];exact h2.1,filter_one _ _ _ j hj h3 fun i hi BC=>?_⟩;cases c:Qt (rb.getD k 0) (sp.getD i AP)
 · rfl
 · exact (BC (o8 h hi hj c h3)).elim
theorem Uy (w:Int) (ns:List (List UInt8)) (nu:List Int) (L:List Dc) (h:L.length+1<10000000):AW w ns nu (Cp 0 L)=some (Cp 0 (L++[⟨w,0,ns,nu⟩])):=by
 unfold AW;rw[DF,decide_eq_true h,cond_true,Q7,AZ (by omega)];simp[Cp]
theorem nd5 (n:Nt) (h:n.blocks.length≤24):AS (GU n) ([],0)=some (Cp 0 (DJ n),(n.blocks.length:Int)):=by
 have hl:=Bw (step:=GU n) n.blocks.length (fun k=>(Cp 0 ((n.blocks.take k).map Pp),(k:Int))) (Cp 0 (DJ n),(n.blocks.length:Int))
   (fun k hk=>by
     rw[Gq,D2 hk,cond_true,AU n.blocks k C1 hk,Option.bind_some,Uy _ _ _ _ (by simp;omega),Option.bind_some,AZ (by omega),AR n.blocks k C1 hk,List.map_append];rfl)
   (by rw[Gq,Fj,cond_false];simp[DJ])
 exact hl
theorem nd3 (n:Nt) (acc:List Dc) (i:Nat) (row:List Int) (ha:acc.length≤1000) (hr4:row.length≤4) (Bj:Gn n.blocks.length i row) (hi:i<n.blocks.length):
   AS (E4 n (i:Int) row) (Cp 0 acc,0)=some (Cp 0 (acc++row.map (LS n i)),(row.length:Int)):=by
 have hl:=Bw (step:=E4 n (i:Int) row) row.length (fun k=>(Cp 0 (acc++(row.take k).map (LS n i)),(k:Int))) (Cp 0 (acc++row.map (LS n i)),(row.length:Int))
   (fun k hk=>by
     have hro:=Bj k hk;obtain ⟨x,hx⟩:∃x:Nat,row.getD k 0=(x:Int):=⟨(row.getD k 0).toNat,by have:=hro.1;omega⟩;have hxb:x<n.blocks.length:=by have:=hro.2.1;omega
     rw[Gt,D2 hk,cond_true,AU row k 0 hk,Option.bind_some,AU n.blocks i C1 hi,Option.bind_some,hx,AU n.blocks x C1 hxb,Option.bind_some,Uy _ _ _ _ (by simp;omega),Option.bind_some,AZ (by omega),AR row k 0 hk,List.map_append,hx,List.append_assoc];rfl)
   (by rw[Gt,Fj,cond_false];simp)
 simpa using hl
theorem Pj (n:Nt) (hb:FW n) (i:Nat) (hi:i≤n.blocks.length):(EN n i).length≤4*i:=by
 induction i with
 | zero=>simp[EN]
 | succ i ih=>
   rw[MS,List.length_append];have h1:=ih (by omega);have h2:=(hb.2.2.2 i (by omega)).2.1;simp only[U8,List.length_map];omega
theorem nd4 (n:Nt) (hb:FW n):AS (GV n) (Cp 0 (DJ n),0)=some (Cp 0 (DJ n++EN n n.blocks.length),(n.next.length:Int)):=by
 have RI:=hb.2.1;have J7:=hb.2.2.1;have hl:=Bw (step:=GV n) n.next.length (fun k=>(Cp 0 (DJ n++EN n k),(k:Int))) (Cp 0 (DJ n++EN n n.blocks.length),(n.next.length:Int))
   (fun k hk=>by
     have Hw:=Pj n hb k (by omega);obtain ⟨_,h4,Bj⟩:=hb.2.2.2 k (by omega);rw[Gr,D2 hk,cond_true,AU n.next k [] hk,Option.bind_some,nd3 n _ k _ (by simp[DJ];omega) h4 Bj (by omega),Option.bind_some,AZ (by omega),MS,U8,List.append_assoc])
   (by rw[Gr,Fj,cond_false,J7])
 have h0:EN n 0=[]:=rfl
 simpa [h0] using hl
theorem Afn {nb:Nat} {l:List BY} (h:Ch nb l) {k:Nat} (hk:k<l.length):∃x y:Nat,(l.getD k AP).Ft=(x:Int)∧x<nb∧(l.getD k AP).out=(y:Int)∧y<nb:=by
 obtain ⟨a,b,c,d,_⟩:=h k hk;exact ⟨(l.getD k AP).Ft.toNat,(l.getD k AP).out.toNat,by omega,by omega,by omega,by omega⟩
theorem nd2 (n:Nt) (acc:List Dc) (ha:acc.length≤1000) (hs:n.spurs.length≤6) (EI:Ch n.blocks.length n.spurs):AS (GW n) (Cp 0 acc,0)=some (Cp 0 (acc++HE n),(n.spurs.length:Int)):=by
 have hl:=Bw (step:=GW n) n.spurs.length (fun k=>(Cp 0 (acc++(n.spurs.take k).map (Ke n)),(k:Int))) (Cp 0 (acc++HE n),(n.spurs.length:Int))
   (fun k hk=>by
     obtain ⟨x,y,hx,hxb,hy,hyb⟩:=Afn EI hk;rw[Gx,D2 hk,cond_true,AU n.spurs k AP hk,Option.bind_some,hx,hy,AU n.blocks x C1 hxb,Option.bind_some,AU n.blocks y C1 hyb,Option.bind_some,AR n.spurs k AP hk,List.map_append];have hsd:Ke n (n.spurs.getD k AP)=⟨if (n.spurs.getD k AP).A1 then 4 else 3,0,[(n.spurs.getD k AP).name,(n.blocks.getD x C1).name,(n.blocks.getD y C1).name],[(n.spurs.getD k AP).AH]⟩:=by
       simp only[Ke,bnm,hx,hy,Int.toNat_natCast]
     simp only[List.map_cons,List.map_nil,hsd];cases (n.spurs.getD k AP).A1
     · rw[cond_false,Option.bind_some,Option.bind_some,Uy _ _ _ _ (by simp;omega),Option.bind_some,AZ (by omega),List.append_assoc];rfl
     · rw[cond_true,Uy _ _ _ _ (by simp;omega),Option.bind_some,AZ (by omega),List.append_assoc];rfl)
   (by rw[Gx,Fj,cond_false];simp[HE])
 simpa using hl
theorem r8 (s:BY) (r:Int) (hb:0≤s.base∧s.base≤1000) (hs:0≤s.AH∧s.AH≤1000):B6 s r=some (Qt r s,r):=by
 unfold B6 Qt;rw[An (by omega) (by omega)];cases decide (s.base≤r)<;>rfl
theorem QQ {nb:Nat} {l:List BY} (h:Ch nb l) (hl:l.length≤6) (hn:nb≤24) {k:Nat} (hk:k<l.length):(0≤(l.getD k AP).base∧(l.getD k AP).base≤100)∧1≤(l.getD k AP).AH∧(l.getD k AP).AH≤4:=by
 have:=h k hk;have h2:=EZ nb l k (by omega) (fun j hj=>h j (by omega));obtain ⟨_,_,_,_,a,b,c⟩:=this;omega
theorem Apy (nb:Nat) (l:List BY) (h:Ch nb l) (hl:l.length≤6) (hn:nb≤24) (r:Int) (j:Nat) (hj:j<l.length) (h1:Qt r (l.getD j AP)=true):Ca l r=some ((j:Int),r):=by
 have RE:=Bw (step:=D0 l) j (fun k=>(r,(k:Int))) (Sum.inr ((j:Int),r))
   (fun k hk=>by
     have Yu:k<l.length:=by omega
     obtain ⟨a,b⟩:=QQ h hl hn Yu;have hf:Qt r (l.getD k AP)=false:=by
       cases c:Qt r (l.getD k AP)
       · rfl
       · have:=o8 h Yu hj c h1;omega
     rw[De,D2 Yu,cond_true,AU l k AP Yu,Option.bind_some,r8 _ _ (by simp only;omega) (by simp only;omega),Option.bind_some]
     show cond (Qt r (l.getD k AP)) _ _=_
     rw[hf,cond_false,AZ (by omega)])
   (by
     obtain ⟨a,b⟩:=QQ h hl hn hj;rw[De,D2 hj,cond_true,AU l j AP hj,Option.bind_some,r8 _ _ (by simp only;omega) (by simp only;omega),Option.bind_some]
     show cond (Qt r (l.getD j AP)) _ _=_
     rw[h1,cond_true])
 unfold Ca;rw[show (r,(0:Int))=(r,((0:Nat):Int)) from rfl,RE];rfl
theorem Ph (n:Nt) (EI:Ch n.blocks.length n.spurs) (hr:CJ n.spurs n.Al):∀k,k≤n.Al.length→(Gi n k).length=k:=by
 intro k
 induction k with
 | zero=>intro _;rfl
 | succ k ih=>
   intro hk;obtain ⟨j,_,_,_,hf⟩:=Wx EI hr (show k<n.Al.length by omega);rw[MR n k (by omega),List.length_append,ih (by omega),OF,List.take_length,hf];rfl
theorem nd1 (n:Nt) (acc:List Dc) (ha:acc.length≤1000) (hb:n.blocks.length≤24) (hs:n.spurs.length≤6) (Yo:n.Al.length≤8) (EI:Ch n.blocks.length n.spurs) (hr:CJ n.spurs n.Al):
   AS (GX n) (Cp 0 acc,0)=some (Cp 0 (acc++Gi n n.Al.length),(n.Al.length:Int)):=by
 have hl:=Bw (step:=GX n) n.Al.length (fun k=>(Cp 0 (acc++Gi n k),(k:Int))) (Cp 0 (acc++Gi n n.Al.length),(n.Al.length:Int))
   (fun k hk=>by
     obtain ⟨j,hj,h1,_,hf⟩:=Wx EI hr hk;have h4:=Ph n EI hr k (by omega);obtain ⟨a,b⟩:=QQ EI hs hb hj;rw[Gy,D2 hk,cond_true,AU n.Al k 0 hk,Option.bind_some,Apy _ _ EI hs hb _ j hj h1,Option.bind_some];simp only;rw[AU n.spurs j AP hj,Option.bind_some,MR n k hk,OF,List.take_length,hf];simp only[Qt,Bool.and_eq_true,decide_eq_true_eq] at h1;generalize n.Al.getD k 0=r at*;rw[An (x:=r - (n.spurs.getD j AP).base) (by omega) (by omega),An (by omega) (by omega),Uy _ _ _ _ (by simp;omega),Option.bind_some,AZ (by omega),List.append_assoc];rfl)
   (by rw[Gy,Fj,cond_false])
 have h0:Gi n 0=[]:=rfl
 simpa [h0] using hl
theorem UX (n:Nt) (hs:Dd n):HZ n=some (if validN n then (BL n,0) else ([],20)):=by
 unfold HZ;rw[show (⟨n.blocks,n.next,n.spurs,n.Al,n.cq,n.ca,n.cd,n.cp⟩:Nt)=n from rfl,WG n hs,Option.bind_some];by_cases hv:validN n
 · rw[decide_eq_true hv,cond_true,if_pos hv];obtain ⟨hb,hs6,_,p0,_,EI,SZ,_⟩:=hv;have Hw:=Pj n hb n.blocks.length (Nat.le_refl _);have h4:=Ph n EI SZ _ (Nat.le_refl _);have RI:=hb.2.1;have e1:(DJ n).length=n.blocks.length:=by simp[DJ]
   have e3:(HE n).length=n.spurs.length:=by simp[HE]
   rw[nd5 n RI,Option.bind_some];simp only;rw[nd4 n hb,Option.bind_some];simp only;rw[nd2 n _ (by simp;omega) hs6 EI,Option.bind_some];simp only;rw[nd1 n _ (by simp;omega) RI hs6 p0 EI SZ,Option.bind_some];simp only;rw[Uy _ _ _ _ (by simp;omega),Option.bind_some];rfl
 · rw[decide_eq_false hv,cond_false,if_neg hv]
theorem Ae4 (n:Nt) (hv:validN n):(BL n).length≤200∧∀x∈BL n,x.names.length≤10∧x.AJ.length≤10:=by
 obtain ⟨hb,hs6,_,p0,_,EI,SZ,_⟩:=hv;have Hw:=Pj n hb n.blocks.length (Nat.le_refl _);have h4:=Ph n EI SZ _ (Nat.le_refl _);have RI:=hb.2.1;have e1:(DJ n).length=n.blocks.length:=by simp[DJ]
 have e3:(HE n).length=n.spurs.length:=by simp[HE]
 refine ⟨by rw[BL,DF,DK];simp;omega,?_⟩;have key:∀(L:List Dc) (i:Nat),(∀x∈L,x.names.length≤10∧x.AJ.length≤10)→∀x∈Cp i L,x.names.length≤10∧x.AJ.length≤10:=by
   intro L
   induction L with
   | nil=>intro i _ x hx;simp[Cp] at hx
   | cons y r ih=>
     intro i h x hx;simp only[Cp,List.mem_cons] at hx;rcases hx with rfl | hx
     · exact h y (by simp)
     · exact ih _ (fun z hz=>h z (by simp[hz])) x hx
 refine key _ _ fun x hx=>?_;simp only[DK,List.mem_append,List.mem_singleton] at hx;rcases hx with (((hx | hx) | hx) | hx) | rfl
 · obtain ⟨b,_,rfl⟩:=List.mem_map.1 hx;simp[Pp]
 · obtain ⟨i,_,hx⟩:=List.mem_flatMap.1 hx;obtain ⟨b,_,rfl⟩:=List.mem_map.1 hx;simp[LS]
 · obtain ⟨b,_,rfl⟩:=List.mem_map.1 hx;simp[Ke]
 · obtain ⟨i,_,hx⟩:=List.mem_flatMap.1 hx;obtain ⟨b,_,rfl⟩:=List.mem_map.1 hx;simp[P9]
 · simp
open Classical in
noncomputable def Kj (n:Nt):Option Bool:=if Dd n then some (decide (validN n)) else none
theorem To (n:Nt) (h:Dd n):Kj n=some (decide (validN n)):=by unfold Kj;rw[if_pos h]
theorem YO (n:Nt) (r:Bool) (h:Kj n=some r):Aj Tryz.prog 46 [.agg [.p (.sl (Bi n.blocks)),.p (.sl (AM n.next)),.p (.sl (Bh n.spurs)),.p (.sl (Ag n.Al)),.p (.int .i64 n.cq),.p (.int .i64 n.ca),.p (.int .i64 n.cd),.p (.int .i64 n.cp)]] [] fun h d=>h=[]∧d= .p (.bool r):=by
 by_cases hs:Dd n
 · rw[To n hs] at h;cases h;exact Li n hs
 · unfold Kj at h;rw[if_neg hs] at h;cases h
open Classical in
noncomputable def Qp (n:Nt):Option (List Dc×Int):=if Dd n then some (if validN n then (BL n,0) else ([],20)) else none
theorem Wz (n:Nt) (h:Dd n):Qp n=some (if validN n then (BL n,0) else ([],20)):=by
 unfold Qp;rw[if_pos h]
theorem Aak (n:Nt) (hs:Dd n) (hn:¬validN n):Aj Tryz.prog 53 [.agg n.cs] [] fun h r=>h=[]∧r= .BA [.p (.sl (BO [])),.p (.int .i64 20)]:=by
 have hV:=Li n hs;rw[decide_eq_false hn] at hV;refine Ak Tryz.func53 rfl Xr (by simp[Tryz.f53]) ?_;simp only[go_sem,Nt.cs];refine Au ((hV)) ?_;rintro h' r ⟨rfl,rfl⟩;simp only[go_sem];try (refine Ah ?_)
 all_goals (try simp only[go_sem,BO])
 all_goals (try (first | rfl | exact ⟨rfl,rfl⟩ | (simp;done)))
theorem Aaj (n:Nt) (r:List Dc×Int) (h:Qp n=some r):Aj Tryz.prog 53 [.agg [.p (.sl (Bi n.blocks)),.p (.sl (AM n.next)),.p (.sl (Bh n.spurs)),.p (.sl (Ag n.Al)),.p (.int .i64 n.cq),.p (.int .i64 n.ca),.p (.int .i64 n.cd),.p (.int .i64 n.cp)]] [] fun h d=>h=[]∧d= .BA [.p (.sl (BO r.1)),.p (.int .i64 r.2)]:=by
 by_cases hs:Dd n
 · rw[Wz n hs] at h;by_cases hv:validN n
   · rw[if_pos hv] at h;cases h;exact XH n hv
   · rw[if_neg hv] at h;cases h;exact Aak n hs hv
 · unfold Qp at h;rw[if_neg hs] at h;cases h
end Go.Am
end
section
namespace Go.Am
open Go Go.Proofs
open Classical in noncomputable def rCells_v (n:Nt):Option Int:=if validN n then some (cellsV n) else none
set_option maxRecDepth 100000
set_option linter.unusedVariables false
set_option linter.unusedSimpArgs false
set_option maxHeartbeats 2000000
theorem YS (n:Nt) (r:Int) (h:rCells_v n=some r):Aj Tryz.prog 49 [.agg [.p (.sl (Bi n.blocks)),.p (.sl (AM n.next)),.p (.sl (Bh n.spurs)),.p (.sl (Ag n.Al)),.p (.int .i64 n.cq),.p (.int .i64 n.ca),.p (.int .i64 n.cd),.p (.int .i64 n.cp)]] [] fun h d=>h=[]∧d= .p (.int .i64 r):=by unfold rCells_v at h;split at h<;>cases h;rename_i hs;exact XV n hs
open Classical in noncomputable def rSlots_v (n:Nt) (sh:List Bool):Option Int:=if validN n∧(sh.length:Int)=cellsV n then some (slotsV sh n.spurs) else none
theorem YQ (n:Nt) (sh:List Bool) (r:Int) (h:rSlots_v n sh=some r):Aj Tryz.prog 48 [.agg [.p (.sl (Bi n.blocks)),.p (.sl (AM n.next)),.p (.sl (Bh n.spurs)),.p (.sl (Ag n.Al)),.p (.int .i64 n.cq),.p (.int .i64 n.ca),.p (.int .i64 n.cd),.p (.int .i64 n.cp)],.p (.sl (Bf sh))] [] fun h d=>h=[]∧d= .p (.int .i64 r):=by unfold rSlots_v at h;split at h<;>cases h;rename_i hs;exact Wq n hs.1 sh hs.2
noncomputable def Nq (a0:Nt):Option (GJ×Int):=
 Option.bind (Kj (⟨a0.blocks,a0.next,a0.spurs,a0.Al,a0.cq,a0.ca,a0.cd,a0.cp⟩:Nt)) fun x1=>cond x1 (cond (decide (a0.blocks.length<10000000)) (Option.bind (Km a0.next (List.replicate a0.blocks.length false)) fun (x5,x6,x7)=>Option.bind (rCells_v (⟨a0.blocks,a0.next,a0.spurs,a0.Al,a0.cq,a0.ca,a0.cd,a0.cp⟩:Nt)) fun x9=>cond (decide (0≤x9)&&decide ((Int.toNat x9)<10000000)) (Option.bind (rSlots_v (⟨a0.blocks,a0.next,a0.spurs,a0.Al,a0.cq,a0.ca,a0.cd,a0.cp⟩:Nt) (List.replicate (Int.toNat x9) false)) fun Yz=>cond (decide (0<x5)) (some ((⟨x5,x6,Yz,(if Yz<(IntKind.i64.wrap (x5 - 1)) then Yz else (IntKind.i64.wrap (x5 - 1)))⟩:GJ),0)) (some ((⟨x5,x6,Yz,Yz⟩:GJ),0))) none) none) (some ((⟨0,[],0,0⟩:GJ),20))
theorem YR (a0:Nt) (r:GJ×Int) (hr:Nq a0=some r):
   Aj Tryz.prog 21 [.agg [.p (.sl (Bi a0.blocks)),.p (.sl (AM a0.next)),.p (.sl (Bh a0.spurs)),.p (.sl (Ag a0.Al)),.p (.int .i64 a0.cq),.p (.int .i64 a0.ca),.p (.int .i64 a0.cd),.p (.int .i64 a0.cp)]] [] fun h d=>h=[]∧d= .BA [.agg [.p (.int .i64 r.1.IK),.p (.sl (Ag r.1.JX)),.p (.int .i64 r.1.AH),.p (.int .i64 r.1.cap)],.p (.int .i64 r.2)]:=by
 refine Ak Tryz.func21 rfl Xw (by simp[Tryz.f21]) ?_;unfold Nq at hr;obtain ⟨x1,g2,hr⟩:=bE hr;try simp only[go_sem]
 refine Au (YO (⟨a0.blocks,a0.next,a0.spurs,a0.Al,a0.cq,a0.ca,a0.cd,a0.cp⟩:Nt) _ g2) ?_;rintro h' r ⟨rfl,rfl⟩;cases c3:x1
 · simp only[c3,cond_false] at hr;obtain rfl:=Option.some.inj hr;try simp only[go_sem,c3]
   all_goals (try refine Ah ?_)
   all_goals (try simp only[go_sem,c3])
   all_goals (try (first | rfl | exact ⟨rfl,rfl⟩ | (simp;done)))
 simp only[c3,cond_true] at hr;try simp only[go_sem,c3]
 refine AY mixed (p:=[(0,0),(1,0),(2,0),(3,0),(4,0),(5,1),(6,2),(7,0),(8,0),(9,0),(10,0),(11,0),(12,0),(13,0)]) (by kernel_rfl) (by simp[Av,get]) ?_;obtain ⟨c4,hr⟩:=gE hr;try simp only[go_sem]
 refine ⟨by have:=of_decide_eq_true c4;omega,?_⟩;obtain ⟨⟨x5,x6,x7⟩,g8,hr⟩:=bE hr;try simp only[go_sem,Dk]
 refine Bu (YT a0.next (List.replicate a0.blocks.length false) _ g8) ?_;rintro h' r ⟨rfl,rfl⟩;try simp only[go_sem]
 refine AY mixed (p:=[(0,0),(1,0),(2,0),(3,0),(8,1),(4,2),(5,1),(6,2),(7,0),(9,3)]) (by kernel_rfl) (by simp[Av,get]) ?_;obtain ⟨x9,g10,hr⟩:=bE hr;try simp only[go_sem]
 refine Bu (YS (⟨a0.blocks,a0.next,a0.spurs,a0.Al,a0.cq,a0.ca,a0.cd,a0.cp⟩:Nt) _ g10) ?_;rintro h' r ⟨rfl,rfl⟩;obtain ⟨c11,hr⟩:=gE hr;try simp only[go_sem]
 refine ⟨by simp only[Bool.and_eq_true,decide_eq_true_eq] at c11;omega,?_⟩;obtain ⟨Yz,g13,hr⟩:=bE hr;try simp only[go_sem,Dk]
 refine Ark rfl rfl (YQ (⟨a0.blocks,a0.next,a0.spurs,a0.Al,a0.cq,a0.ca,a0.cd,a0.cp⟩:Nt) (List.replicate (Int.toNat x9) false) _ g13) (by simp[HI,P8,ev,get,List.take_of_length_le,ZB]<;>rfl) ?_;rintro h' r ⟨rfl,rfl⟩;refine ⟨rfl,rfl,?_⟩;cases c14:decide (0<x5)
 · simp only[c14,cond_false] at hr;obtain rfl:=Option.some.inj hr;try simp only[go_sem,c14]
   all_goals (try refine Ah ?_)
   all_goals (try simp only[go_sem,c14])
   all_goals (try (first | rfl | exact ⟨rfl,rfl⟩ | (simp;done)))
 simp only[c14,cond_true] at hr;obtain rfl:=Option.some.inj hr;try simp only[go_sem,c14]
 all_goals (try refine Ah ?_)
 all_goals (try simp only[go_sem,c14])
 all_goals (try (first | rfl | exact ⟨rfl,rfl⟩ | (simp;done)))
end Go.Am
end
section
namespace Go.Am
open Go Go.Proofs
set_option maxRecDepth 100000
set_option linter.unusedVariables false
set_option linter.unusedSimpArgs false
set_option maxHeartbeats 2000000
theorem Asf (c j:Nat):(List.replicate c false).getD j false=false:=by
 simp only[List.getD,List.getElem?_replicate];split<;>rfl
theorem Wr (c:Nat) (l:List BY):slotsV (List.replicate c false) l=Dx l:=by
 induction l with
 | nil=>rfl
 | cons s r ih=>
   have ho:Kv (List.replicate c false) s=true:=by
     unfold Kv;simp only[Asf,Bool.not_false,Bool.true_and,List.all_eq_true];intro _ _;trivial
   simp only[slotsV,Dx,ih,ho,Bool.and_true]
theorem Aal (n:Nt) (hs:Dd n):Nq n=some (if validN n then (Si n,0) else (⟨0,[],0,0⟩,20)):=by
 unfold Nq;have hv:=To n hs;rw[show (⟨n.blocks,n.next,n.spurs,n.Al,n.cq,n.ca,n.cd,n.cp⟩:Nt)=n from rfl,hv];simp only[Option.bind_some];by_cases hn:validN n
 · obtain ⟨hg,_,hl⟩:=C4 hn;have EI:Ch n.blocks.length n.spurs:=hn.2.2.2.2.2.1;have h6:n.spurs.length≤6:=hn.2.1;have O4:=hg.1;have Asx:=Nk EI;have SH:0≤cellsV n∧cellsV n≤100:=by unfold cellsV;omega
   rw[if_pos hn,decide_eq_true hn];have c1:decide (n.blocks.length<10000000)=true:=decide_eq_true (by omega);have hc:rCells_v n=some (cellsV n):=by unfold rCells_v;rw[if_pos hn]
   have hsl:rSlots_v n (List.replicate (cellsV n).toNat false)=some (Dx n.spurs):=by
     unfold rSlots_v;rw[if_pos ⟨hn,by rw[List.length_replicate];omega⟩,Wr]
   simp only[cond_true,c1];rw[←hl,Aao hg (by simp)];simp only[Option.bind_some];rw[hc];simp only[Option.bind_some];have c2:(decide (0≤cellsV n)&&decide ((cellsV n).toNat<10000000))=true:=by
     rw[decide_eq_true SH.1,decide_eq_true (show (cellsV n).toNat<10000000 by omega)];rfl
   simp only[c2,cond_true];rw[hsl];simp only[Option.bind_some];have hgl:=ME hg (List.replicate n.next.length false);unfold Si HW;dsimp only;by_cases c2:0<(Dj n.next (List.replicate n.next.length false)).length
   · rw[decide_eq_true (show (0:Int)<(((Dj n.next (List.replicate n.next.length false)).length:Nat):Int) by omega)];simp only[cond_true];rw[An (by omega) (by omega)];by_cases c3:(((Dj n.next (List.replicate n.next.length false)).length:Nat):Int) - 1<Dx n.spurs
     · rw[if_neg (by omega),if_pos ⟨c2,c3⟩]
     · by_cases c4:Dx n.spurs<(((Dj n.next (List.replicate n.next.length false)).length:Nat):Int) - 1
       · rw[if_pos c4,if_neg (fun h=>c3 h.2)]
       · rw[if_neg c4,if_neg (fun h=>c3 h.2)];have e:(((Dj n.next (List.replicate n.next.length false)).length:Nat):Int) - 1=Dx n.spurs:=by omega
         rw[e]
   · rw[decide_eq_false (show ¬(0:Int)<(((Dj n.next (List.replicate n.next.length false)).length:Nat):Int) by omega)];simp only[cond_false];rw[if_neg (fun h=>c2 h.1)]
 · rw[if_neg hn,decide_eq_false hn];simp only[cond_false]
def Tn (n:Nt):List UInt8×Int:=if validN n then (CQ 1 ((BL n).map LR),0) else ([],20)
theorem Agu (n:Nt) (hs:Dd n):Aj Tryz.prog 22 [.agg n.cs] [(1000000,(.BK 1 Hc))] fun h r=>h=[(1000000,(.BK 1 Hc))]∧r= .BA [.p (.str (Tn n).1),.p (.int .i64 (Tn n).2)]:=by
 have hd:=SS n _ (UX n hs);unfold Tn;refine Ak Tryz.func22 rfl Aji (by simp[Tryz.f22]) ?_;simp only[go_sem,Nt.cs];refine Au ((hd).BK (id:=1000000) (by decide) rfl (by simp[Ai,D.ids,Ac]) (fun h1 r hr=>by rw[hr.1];rfl)) ?_;rintro h' r ⟨_,⟨rfl,rfl⟩,rfl⟩;by_cases hv:validN n
 · rw[if_pos hv,if_pos hv];have hds:=P1 n hv;obtain ⟨FH,Fv,htl,VX,Rz⟩:=Sc n hv;have hf:=RO (BL n) [] FH;have CD:=MH 2000000 (BL n) [] hds.2 (by simp);rw[hf] at CD;rw[List.nil_append] at hf CD;simp only[go_sem];refine Au ((Ahz (BL n) (by omega) (fun x hx=>by have:=hds.2 x hx;omega))) ?_;rintro h' r ⟨rfl,rfl⟩;rw[hf];have hlm:((BL n).map fun x=>(⟨x.line,CT x⟩:Ln))=(BL n).map LR:=rfl;rw[hlm] at CD ⊢;have hml:((BL n).map LR).length=(BL n).length:=by simp
   generalize (BL n).map LR=ls at*;simp only[go_sem,An0];refine Au ((Agx ls ⟨by omega,fun x hx=>⟨by have:=Rz x hx;omega,by have:=Rz x hx;omega⟩⟩).BK (id:=1000000) (by decide) rfl (by simp[Ai,D.ids,Ac]) (fun h1 r hr=>by rw[hr.1];rfl)) ?_;rintro h' r ⟨_,⟨rfl,rfl⟩,rfl⟩;have hj:Fs ls=(CQ 1 ls,0):=by unfold Fs;rw[if_pos Fv,if_neg (by omega)]
   simp only[go_sem,o6,hj];refine Ah ?_;simp only[go_sem]
 · rw[if_neg hv,if_neg hv];simp only[go_sem];refine Ah ?_;simp only[go_sem]
theorem j7:∀(l:List (List UInt8)) (s:List UInt8),s∈l→s.length≤HN l
 | x::r,s,h=>by
   rw[show x::r=[x]++r from rfl,Wl];rcases List.mem_cons.1 h with rfl | h
   · have:s.length≤HN [s]:=by simp[HN]
     omega
   · have:=j7 r s h;omega
theorem Afz (n:Nt) (hs:Dd n):Aj Tryz.prog 23 [.agg n.cs] [] fun h r=>h=[]∧r= .BA [.p (.str (Tn n).1),.p (.int .i64 (Tn n).2)]:=by
 have hd:=Aaj n _ (Wz n hs);unfold Tn;refine Ak Tryz.func23 rfl Ajh (by simp[Tryz.f23]) ?_;simp only[go_sem,Nt.cs];refine Au ((hd)) ?_;rintro h' r ⟨rfl,rfl⟩;by_cases hv:validN n
 · rw[if_pos hv,if_pos hv];have hds:=P1 n hv;have Axb:=(Ae4 n hv).2;obtain ⟨FH,Fv,htl,VX,Rz⟩:=Sc n hv;have hfs:∀x∈(BL n).map LR,∀s∈x.fs,s.length≤4000000:=fun x hx s hm=>by
     obtain ⟨y,hy,rfl⟩:=List.mem_map.1 hx;have h1:=(Um y (FH y hy)).2.2;have h2:=j7 _ s hm;have h3:=Axb y hy;unfold wD at h1;omega
   have hf:=RO (BL n) [] FH;have CD:=MH 2000000 (BL n) [] hds.2 (by simp);rw[hf] at CD;rw[List.nil_append] at hf CD;simp only[go_sem];refine Au ((Amz (BL n) (by omega) (fun x hx=>by have:=hds.2 x hx;omega))) ?_;rintro h' r ⟨rfl,rfl⟩;rw[hf];have hlm:((BL n).map fun x=>(⟨x.line,CT x⟩:Ln))=(BL n).map LR:=rfl;rw[hlm] at CD ⊢;have hml:((BL n).map LR).length=(BL n).length:=by simp
   generalize (BL n).map LR=ls at*;simp only[go_sem,An0];refine Au ((Agw ls ⟨by omega,fun x hx=>⟨by have:=Rz x hx;omega,by have:=Rz x hx;omega,hfs x hx⟩⟩)) ?_;rintro h' r ⟨rfl,rfl⟩;have hj:Fs ls=(CQ 1 ls,0):=by unfold Fs;rw[if_pos Fv,if_neg (by omega)]
   simp only[go_sem,o6,hj];refine Ah ?_;simp only[go_sem]
 · rw[if_neg hv,if_neg hv];simp only[go_sem];refine Ah ?_;simp only[go_sem]
theorem Rg (raw:Nt) (l:List Int) (hr:Dd raw):
   Aj Tryz.prog 5 [.agg raw.cs,.p (.sl (Ag l))] [(1000000,(.BK 1 Hc))] fun h r=>h=[(1000000,(.BK 1 Hc))]∧r= .p (.bool true):=by
 refine Ak Tryz.func5 rfl r6 (by simp[Tryz.f5]) ?_;simp only[go_sem,Nt.cs];refine Au ((Ze).BK (id:=1000000) (by decide) rfl (by simp[Ai,D.ids,Ac]) (fun h1 r hr=>by rw[hr.1];rfl)) ?_;rintro h' r ⟨_,⟨rfl,rfl⟩,rfl⟩;simp only[go_sem];refine BB [(2,.box [.p (.sl (Bi raw.blocks)),.p (.sl (AM raw.next)),.p (.sl (Bh raw.spurs)),.p (.sl (Ag raw.Al)),.p (.int .i64 raw.cq),.p (.int .i64 raw.ca),.p (.int .i64 raw.cd),.p (.int .i64 raw.cp)])] mixed (p:=[(0,0),(1,0),(2,0),(3,1),(4,2),(5,1),(6,0)]) (by kernel_rfl) (by simp[Av,get]) ?_;simp only[go_sem];refine Bu ((Agl l 0 10 (by omega) (by omega) (by omega)).BK (id:=1000001) (by decide) rfl (by simp[Ai,D.ids,Ac,Br,AO.ids,get]) (fun h1 r hr=>by obtain ⟨_,_,_,_,rfl,rfl⟩:=hr;rfl)) ?_;rintro h' r ⟨h1,⟨at2,n,hat2,hn,rfl,rfl⟩,rfl⟩;simp only[go_sem,Br,Nt.cs];have key:∀x:Nt,x=raw∨x=n→Dd x:=by
   rintro x (rfl | rfl)
   · exact hr
   · exact E0 hn.1
 refine Ao (fun i=>⟨[(5,.ref 22 0 2 2),(6,.p (.int .i64 (i:Nat)))],[(22,.arr 33 8 [raw.pd,n.pd]),(1000000,(.BK 1 Hc))],78⟩) (fun i=>i≤2) (fun i=>2 - i) 0 (by omega) (Wk.forget (by simp[Le,AG,Av,get,Aa,Ac,Ad,D.ids,Ai,AO.ids,Ae,base,Nt.pd])) ?_;rintro i m hi ih;simp only[go_sem];cases c1:decide ((i:Int)<2)
 · simp only[go_sem,c1]
 obtain ⟨x,hx,hg⟩:∃x,(x=raw∨x=n)∧([raw.pd,n.pd]:List (List Pd)).getD i []=x.pd:=by
   have:i=0∨i=1:=by have:=of_decide_eq_true c1;omega
   rcases this with rfl | rfl
   · exact ⟨raw,.inl rfl,rfl⟩
   · exact ⟨n,.inr rfl,rfl⟩
 have C0:(i:Int)<2:=of_decide_eq_true c1;have Bm:(0:Int)≤(i:Int):=by omega
 have hs:=key x hx;have hw:=As i (by omega);have TX:x.pd=[.sl (Bi x.blocks),.sl (AM x.next),.sl (Bh x.spurs),.sl (Ag x.Al),.int .i64 x.cq,.int .i64 x.ca,.int .i64 x.cd,.int .i64 x.cp]:=rfl;have hF:=Rl x _ (TH x hs);have hG:=YR x _ (Aal x hs);have hS:=Agu x hs;have hT:=Afz x hs;have hcy:(if validN x then (Si x,(0:Int)) else ((⟨0,[],0,0⟩:GJ),(20:Int))).1.JX.length≤10000000:=by
   split
   · rename_i hv;have:=ME (C4 hv).1 (HW x)
     show (Dj x.next (HW x)).length≤10000000
     omega
   · simp
 generalize (if validN x then (Si x,(0:Int)) else ((⟨0,[],0,0⟩:GJ),(20:Int)))=cp at hF hG hcy;have hC:Lk cp.1 cp.1=some true:=by
   unfold Lk;rw[SM _ hcy];simp
 simp only[go_sem,c1,Int.toNat_natCast,hg,TX,C0,Bm];refine Au ((hF).BK (id:=1000000) (by decide) rfl (by simp[Ai,D.ids,Ac]) (fun h1 r hr=>by rw[hr.1];rfl)) ?_;rintro h' r ⟨_,⟨rfl,rfl⟩,rfl⟩;simp only[go_sem,Int.toNat_natCast,hg,TX,C0,Bm];refine Au ((hG).BK (id:=1000000) (by decide) rfl (by simp[Ai,D.ids,Ac]) (fun h1 r hr=>by rw[hr.1];rfl)) ?_;rintro h' r ⟨_,⟨rfl,rfl⟩,rfl⟩;simp only[go_sem,Int.toNat_natCast,hg,TX,C0,Bm,Nt.cs];refine Au ((hS)) ?_;rintro h' r ⟨rfl,rfl⟩;simp only[go_sem,Int.toNat_natCast,hg,TX,C0,Bm,Nt.cs];refine Au ((hT).BK (id:=1000000) (by decide) rfl (by simp[Ai,D.ids,Ac,Nt.cs]) (fun h1 r hr=>by rw[hr.1];rfl)) ?_;rintro h' r ⟨_,⟨rfl,rfl⟩,rfl⟩;simp only[go_sem,beq_self_eq_true];refine Au ((Wu _ _ true hC).BK (id:=1000000) (by decide) rfl (by simp[Ai,D.ids,Ac]) (fun h1 r hr=>by rw[hr.1];rfl)) ?_;rintro h' r ⟨_,⟨rfl,rfl⟩,rfl⟩;simp only[go_sem,beq_self_eq_true,hw];refine ih (i+1) _ (by omega) (by omega) (Wk.forget (by simp[Le,AG,Av,get,Aa,Ac,Ad,D.ids,Ai,AO.ids,Ae,base,Nt.pd]))
end Go.Am
end
