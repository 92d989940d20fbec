/- Texts of this proof, what it rests on, merged: part J. -/
import Derived.Test.YtjbklifaekjilaaGreatDoorCqI
noncomputable section
namespace Go.Am
open Go Go.Proofs
open Tryz
set_option maxRecDepth 100000
set_option linter.unusedVariables false
set_option linter.unusedSimpArgs false
set_option maxHeartbeats 2000000
theorem RG(g:List (List Int))(sh:List Bool)(p1 p2 Xt:Nat)(se lo ad P H:List Nat)(pk hk cn:Nat)(nm:List Int)(v:Nat)(hpk:pk<=P.length)(hhk:hk<=H.length):
   Wk ⟨[(0,.ptr 1000000 0),(1,.p (.int .i64 (v:Nat)))],[
     (1000000,.box [.p (.sl (Cw g)),.p (.sl (CW sh)),.ref 1000001 0 se.length se.length,.ref 1000002 0 lo.length lo.length,.ref 1000003 0 ad.length ad.length,.ref 500005 0 pk P.length,.ref 500006 0 hk H.length,.p (.int .i64 (cn:Nat)),.ref 1000006 0 nm.length nm.length]),(1000001,.arr 3 1 (BT (nI se))),(1000002,.arr 3 1 (BT (nI lo))),(1000003,.arr 3 1 (BT (nI ad))),(1000004,.E4 (FA 1 p1)),(1000005,.E4 (FA 1 p2)),(1000006,.arr 3 1 (BT nm))
     ,(500005,.arr 3 1 (BT (nI P))),(500006,.arr 3 1 (BT (nI H)))],210⟩ (FB.st g sh ⟨Xt,⟨se,lo,ad,P.take pk,H.take hk,cn,nm⟩,v,p1,p2⟩):=by
 have l1:(P.take pk).length=pk:=by simp;omega
 have l2:(H.take hk).length=hk:=by simp;omega
 refine (Wk.HO (id:=1000000) (j:=5) (q:=500005) (k:=pk) (es:=BT (nI P)) 600005 rfl (by simp[Cu,BS]) rfl (by rw[BS,Cu];exact hpk) rfl).trans ?_;refine (Wk.forget (st1:=⟨[(0,.ptr 1000000 0),(1,.p (.int .i64 (v:Nat)))],[
     (1000000,.box [.p (.sl (Cw g)),.p (.sl (CW sh)),.ref 1000001 0 se.length se.length,.ref 1000002 0 lo.length lo.length,.ref 1000003 0 ad.length ad.length,.ref 600005 0 (P.take pk).length (P.take pk).length,.ref 500006 0 hk H.length,.p (.int .i64 (cn:Nat)),.ref 1000006 0 nm.length nm.length]),(1000001,.arr 3 1 (BT (nI se))),(1000002,.arr 3 1 (BT (nI lo))),(1000003,.arr 3 1 (BT (nI ad))),(1000004,.E4 (FA 1 p1)),(1000005,.E4 (FA 1 p2)),(1000006,.arr 3 1 (BT nm))
     ,(600005,.arr 3 1 (BT (nI (P.take pk)))),(500006,.arr 3 1 (BT (nI H)))],210⟩) (by simp[ZF,Apn,l1,l2])).trans ?_
 refine (Wk.HO (id:=1000000) (j:=5) (q:=600005) (k:=pk) (es:=BT (nI (P.take pk))) 500005 rfl (by simp[Cu,BS,l1]) rfl (by rw[BS,Cu,l1];exact Ai _) rfl).trans ?_;refine (Wk.HO (id:=1000000) (j:=6) (q:=500006) (k:=hk) (es:=BT (nI H)) 600006 rfl (by simp[Cu,BS]) rfl (by rw[BS,Cu];exact hhk) rfl).trans ?_;refine (Wk.forget (st1:=⟨[(0,.ptr 1000000 0),(1,.p (.int .i64 (v:Nat)))],[
     (1000000,.box [.p (.sl (Cw g)),.p (.sl (CW sh)),.ref 1000001 0 se.length se.length,.ref 1000002 0 lo.length lo.length,.ref 1000003 0 ad.length ad.length,.ref 500005 0 (P.take pk).length (P.take pk).length,.ref 600006 0 (H.take hk).length (H.take hk).length,.p (.int .i64 (cn:Nat)),.ref 1000006 0 nm.length nm.length]),(1000001,.arr 3 1 (BT (nI se))),(1000002,.arr 3 1 (BT (nI lo))),(1000003,.arr 3 1 (BT (nI ad))),(1000004,.E4 (FA 1 p1)),(1000005,.E4 (FA 1 p2)),(1000006,.arr 3 1 (BT nm))
     ,(500005,.arr 3 1 (BT (nI (P.take pk)))),(600006,.arr 3 1 (BT (nI (H.take hk))))],210⟩) (by simp[ZF,Apn,Ama P pk hpk,l1,l2])).trans ?_
 refine (Wk.HO (id:=1000000) (j:=6) (q:=600006) (k:=hk) (es:=BT (nI (H.take hk))) 500006 rfl (by simp[Cu,BS,l2]) rfl (by rw[BS,Cu,l2];exact Ai _) rfl).trans ?_;exact (Wk.forget (by simp[ZF,FB.st,Apn,Ama P pk hpk,Ama H hk hhk,l1,l2]))
theorem Agf(g:List (List Int))(sh:List Bool)(_p1 _p2 Xt:Nat)(se lo ad P H:List Nat)(pk hk cn:Nat)(nm:List Int)(v:Nat)(hpk:pk<=P.length)(hhk:hk<=H.length):
   Wk ⟨[(0,.ptr 1000000 0),(1,.p (.int .i64 (v:Nat)))],[
     (1000000,.box [.p (.sl (Cw g)),.p (.sl (CW sh)),.ref 1000001 0 se.length se.length,.ref 1000002 0 lo.length lo.length,.ref 1000003 0 ad.length ad.length,.ref 1000004 0 pk P.length,.ref 1000005 0 hk H.length,.p (.int .i64 (cn:Nat)),.ref 1000006 0 nm.length nm.length]),(1000001,.arr 3 1 (BT (nI se))),(1000002,.arr 3 1 (BT (nI lo))),(1000003,.arr 3 1 (BT (nI ad))),(1000004,.arr 3 1 (BT (nI P))),(1000005,.arr 3 1 (BT (nI H))),(1000006,.arr 3 1 (BT nm))
     ],210⟩ (FB.st g sh ⟨Xt,⟨se,lo,ad,P.take pk,H.take hk,cn,nm⟩,v,P.length+1,H.length+1⟩):=by
 have l1:(P.take pk).length=pk:=by simp;omega
 have l2:(H.take hk).length=hk:=by simp;omega
 refine (Wk.HO (id:=1000000) (j:=5) (q:=1000004) (k:=pk) (es:=BT (nI P)) 500005 rfl (by simp[Cu,BS]) rfl (by rw[BS,Cu];exact hpk) rfl).trans ?_;refine (Wk.HO (id:=1000000) (j:=6) (q:=1000005) (k:=hk) (es:=BT (nI H)) 500006 rfl (by simp[Cu,BS]) rfl (by rw[BS,Cu];exact hhk) rfl).trans ?_;exact (Wk.forget (by simp[ZF,FB.st,Apn,l1,l2,Cu,BS]))
structure FI(g:List (List Int))(sh:List Bool)(s0:Sr)(v0:Nat)(b:FB):Prop where
 tj:TJ g sh (if b.Xt=0 then λ w=>w=b.v else OQ) b.s
 cu:b.s.count+Lg g b.s=g.length
 mo:∀x,s0.sn x≠0->b.s.sn x≠0
 v0:b.s.sn v0≠0
 at0:b.Xt=0->b.v<g.length/\sh.getD b.v false=false/\b.s.sn b.v=0/\∀p∈b.s.path,JB g sh p b.v
 at1:b.Xt≠0->b.Xt=1/\∃ps,b.s.path=ps++[b.v]
 pl:b.s.path.length+Lg g b.s<=g.length
 hl:b.s.held.length+Lg g b.s<=g.length
theorem TJ.Ud{g:List (List Int)}{sh:List Bool}{s:Sr}(h:TJ g sh OQ s)(p:Nat->Prop):TJ g sh p s:=
 ⟨h.l1,h.l2,h.l3,h.l4,h.rng,h.cnt,h.inj,h.Xs,h.at0,h.atl,h.MN,h.hso,h.TX,h.pso,h.TY,h.nmc,h.fin,λ x hx k hk w hw ho=>⟨λ e=>((h.edg x hx k hk w hw ho).1 e).elim,(h.edg x hx k hk w hw ho).2⟩,h.low,h.rch,h.own,h.anc,h.nmx⟩
def Sr.inc(s:Sr)(v:Nat):Sr:={s with at_:=s.at_.set v (s.ad v+1)}
def Sr.lo1(s:Sr)(v L:Nat):Sr:={s with low:=s.low.set v L}
theorem p9{s:Sr}{v:Nat}(hv:v<s.at_.length)(x:Nat):(s.inc v).ad x=if x=v then s.ad v+1 else s.ad x:=ET _ _ _ _ _ hv
theorem Asc{s:Sr}{v L:Nat}(hv:v<s.low.length)(x:Nat):(s.lo1 v L).lw x=if x=v then L else s.lw x:=ET _ _ _ _ _ hv
section
variable {g:List (List Int)} {sh:List Bool} {s0 s:Sr} {v0 v w p1 p2:Nat}
theorem FI.Adz(h:FI g sh s0 v0 ⟨1,s,v,p1,p2⟩)(hk:s.ad v<(g.getD v []).length)(hw:(g.getD v []).getD (s.ad v) 0=(w:Int))(hq:sh.getD w false=false->s.sn w≠0/\w∉s.held)(q1 q2:Nat):
   FI g sh s0 v0 ⟨1,s.inc v,v,q1,q2⟩/\FM g (s.inc v)<FM g s:=by
 obtain ⟨tj,cu,mo,V1,_,at1,pl,hl⟩:=h;simp only at pl hl;obtain ⟨_,ps,hp⟩:=at1 (show (1:Nat)≠0 by decide)
 replace tj:TJ g sh OQ s:=tj
 replace hp:s.path=ps++[v]:=hp
 obtain ⟨r6,PI,Na,_⟩:=tj.last hp;have e3:=p9 (s:=s) (v:=v) (by rw[tj.l3];exact Na);have h1:TJ g sh OQ (s.inc v):=tj.step (L:=s.lw v) hp hk hw rfl (λ x=>by show s.lw x=_;split<;>simp_all) rfl e3 (by simp[Sr.inc]) rfl rfl rfl rfl (Ai _) (tj.low v PI).2
   λ ho=>⟨λ e=>absurd e (hq ho).1,λ hm=>absurd hm (hq ho).2⟩
 have h2:=PZ (g:=g) (s:=s) (s':=s.inc v) Na hk e3;have h3:Lg g (s.inc v)=Lg g s:=HU rfl;refine ⟨⟨h1,by show s.count+_=_;rw[h3];exact cu,mo,V1,λ h=>absurd h (show (1:Nat)≠0 by decide),λ _=>⟨rfl,ps,hp⟩,by rw[h3];exact pl,by rw[h3];exact hl⟩,?_⟩;unfold FM;rw[h3];show _+_+s.path.length<_;omega
theorem FI.Ash(h:FI g sh s0 v0 ⟨1,s,v,p1,p2⟩)(hk:s.ad v<(g.getD v []).length)(hw:(g.getD v []).getD (s.ad v) 0=(w:Int))(hwn:w<g.length)(ho:sh.getD w false=false)(hs:s.sn w=0)(q1 q2:Nat):
   FI g sh s0 v0 ⟨0,s.inc v,w,q1,q2⟩/\FM g (s.inc v)<FM g s:=by
 obtain ⟨tj,cu,mo,V1,_,at1,pl,hl⟩:=h;simp only at pl hl;obtain ⟨_,ps,hp⟩:=at1 (show (1:Nat)≠0 by decide)
 replace tj:TJ g sh OQ s:=tj
 replace hp:s.path=ps++[v]:=hp
 obtain ⟨r6,PI,Na,_⟩:=tj.last hp;have e3:=p9 (s:=s) (v:=v) (by rw[tj.l3];exact Na);have hwh:w∉s.held:=λ hm=>((tj.MN w).1 hm).1 hs;have h1:TJ g sh (λ x=>x=w) (s.inc v):=tj.step (L:=s.lw v) hp hk hw rfl (λ x=>by show s.lw x=_;split<;>simp_all) rfl e3 (by simp[Sr.inc]) rfl rfl rfl rfl (Ai _) (tj.low v PI).2
   λ _=>⟨λ _=>rfl,λ hm=>absurd hm hwh⟩
 have h2:=PZ (g:=g) (s:=s) (s':=s.inc v) Na hk e3;have h3:Lg g (s.inc v)=Lg g s:=HU rfl;have he:Ed g sh v w:=⟨by rw[<-hw,getD_eq hk];exact AW hk,ho⟩;refine ⟨⟨h1,by show s.count+_=_;rw[h3];exact cu,mo,V1,λ _=>⟨hwn,ho,hs,λ p JT=>?_⟩,λ h=>absurd rfl h,by rw[h3];exact pl,by rw[h3];exact hl⟩,?_⟩
 . exact (tj.rch p JT v PI ((tj.last hp).2.2.2.2.1 p JT)).tail he
 . unfold FM;rw[h3];show _+_+s.path.length<_;omega
theorem FI.Asg(h:FI g sh s0 v0 ⟨1,s,v,p1,p2⟩)(hk:s.ad v<(g.getD v []).length)(hw:(g.getD v []).getD (s.ad v) 0=(w:Int))(ho:sh.getD w false=false)(hs:s.sn w≠0)(hn:s.nm w<0)(q1 q2:Nat):
   FI g sh s0 v0 ⟨1,(s.inc v).lo1 v (min (s.lw v) (s.sn w)),v,q1,q2⟩/\FM g ((s.inc v).lo1 v (min (s.lw v) (s.sn w)))<FM g s:=by
 obtain ⟨tj,cu,mo,V1,_,at1,pl,hl⟩:=h;simp only at pl hl;obtain ⟨_,ps,hp⟩:=at1 (show (1:Nat)≠0 by decide)
 replace tj:TJ g sh OQ s:=tj
 replace hp:s.path=ps++[v]:=hp
 obtain ⟨r6,PI,Na,_⟩:=tj.last hp;have e3:=p9 (s:=s) (v:=v) (by rw[tj.l3];exact Na);have hwh:w∈s.held:=(tj.MN w).2 ⟨hs,hn⟩;have he:Ed g sh v w:=⟨by rw[<-hw,getD_eq hk];exact AW hk,ho⟩;obtain ⟨_,u,Fe,Lt,hu3⟩:=tj.low v PI;have h1:TJ g sh OQ ((s.inc v).lo1 v (min (s.lw v) (s.sn w))):=tj.step (L:=min (s.lw v) (s.sn w)) hp hk hw rfl (λ x=>Asc (s:=s.inc v) (by show v<s.low.length;rw[tj.l2];exact Na) x) (by simp[Sr.lo1,Sr.inc]) e3 (by simp[Sr.inc,Sr.lo1]) rfl rfl rfl rfl (Nat.min_le_left _ _)
   (by
     rcases Nat.le_total (s.lw v) (s.sn w) with h4 | h4
     . exact ⟨u,Fe,by rw[Nat.min_eq_left h4];exact Lt,hu3⟩
     . exact ⟨w,hwh,by rw[Nat.min_eq_right h4],(JB.refl v).tail he⟩)
   λ _=>⟨λ e=>absurd e hs,λ _=>Nat.min_le_right _ _⟩
 have h2:=PZ (g:=g) (s:=s) (s':=(s.inc v).lo1 v (min (s.lw v) (s.sn w))) Na hk e3;have h3:Lg g ((s.inc v).lo1 v (min (s.lw v) (s.sn w)))=Lg g s:=HU rfl;refine ⟨⟨h1,by show s.count+_=_;rw[h3];exact cu,mo,V1,λ h=>absurd h (show (1:Nat)≠0 by decide),λ _=>⟨rfl,ps,hp⟩,by rw[h3];exact pl,by rw[h3];exact hl⟩,?_⟩;unfold FM;rw[h3];show _+_+s.path.length<_;omega
theorem Z7(ws:List Nat)(m:Int):∀(l:List Int) (x:Nat) (d:Int),(∀w∈ws,w<l.length)->(ER l ws m).getD x d=if x∈ws then m else l.getD x d:=by
 induction ws with
 | nil=>intro l x d _;simp[ER]
 | cons w r ih=>
   intro l x d h;have:=ih (l.set w m) x d (λ y hy=>by rw[List.length_set];exact h y (by simp[hy]));simp only[ER,Bf] at this ⊢;rw[this,ET _ _ _ _ _ (h w (by simp))];by_cases h1:x∈r
   . simp[h1]
   . by_cases h2:x=w
     . simp[h1,h2]
     . simp[h1,h2]
theorem K0(tj:TJ g sh OQ s){i:Nat}(hi:i<s.held.length)(hv:s.held.getD i 0=v):(∀x,x∈s.held.take i↔x∈s.held/\s.sn x<s.sn v)/\(∀x,x∈s.held.drop i↔x∈s.held/\s.sn v<=s.sn x)/\∀j,j<i->s.held.getD j 0≠s.held.getD i 0:=by
 have hso:=List.pairwise_iff_getElem.1 tj.hso;have RQ:s.held[i]=v:=by rw[<-hv,getD_eq hi]
 have lt:∀a b (ha:a<s.held.length) (hb:b<s.held.length),a<b->s.sn s.held[a] <s.sn s.held[b]:=λ a b ha hb WW=>hso a b ha hb WW;refine ⟨λ x=>⟨λ hx=>?_,λ ⟨h1,h2⟩=>?_⟩,λ x=>⟨λ hx=>?_,λ ⟨h1,h2⟩=>?_⟩,λ j hj e=>?_⟩
 . obtain ⟨k,hk,rfl⟩:=AA.1 hx;rw[List.getElem_take];have Jj:k<i:=by simp at hk;omega
   exact ⟨AW _,by rw[<-RQ];exact lt k i (by omega) hi Jj⟩
 . obtain ⟨k,hk,rfl⟩:=AA.1 h1;rcases Nat.lt_or_ge k i with h3 | h3
   . exact AA.2 ⟨k,by simp;omega,by rw[List.getElem_take]⟩
   . rcases Nat.eq_or_lt_of_le h3 with h4 | h4
     . subst h4;rw[RQ] at h2;omega
     . have:=lt i k hi hk h4;rw[RQ] at this;omega
 . obtain ⟨k,hk,rfl⟩:=AA.1 hx;rw[List.getElem_drop];have Jj:i+k<s.held.length:=by simp at hk;omega
   refine ⟨AW _,?_⟩;rcases BQ k with h4 | h4
   . subst h4;simp only[Bh];rw[RQ];exact Ai _
   . have:=lt i (i+k) hi Jj (by omega);rw[RQ] at this;omega
 . obtain ⟨k,hk,rfl⟩:=AA.1 h1;rcases Nat.lt_or_ge k i with h3 | h3
   . have:=lt k i hk hi h3;rw[RQ] at this;omega
   . exact AA.2 ⟨k - i,by simp;omega,by rw[List.getElem_drop];congr 1;omega⟩
 . rw[getD_eq (show j<s.held.length by omega),getD_eq hi] at e;have:=lt j i (by omega) hi hj;rw[e] at this;omega
def Sr.Rp(s:Sr)(ps:List Nat)(t L:Nat):Sr:={s with path:=ps,low:=s.low.set t L}
def Sr.HD(s:Sr)(ps:List Nat)(i:Nat)(m:Int):Sr:={s with path:=ps,held:=s.held.take i,names:=ER s.names (s.held.drop i) m}
theorem TJ.HD(tj:TJ g sh OQ s){ps:List Nat}(hp:s.path=ps++[v])(ha:s.ad v=(g.getD v []).length)(hl:s.lw v=s.sn v){i:Nat}(hi:i<s.held.length)(hv:s.held.getD i 0=v){m:Int}(hm:m∈nI (s.held.drop i))(Rz:∀x∈nI (s.held.drop i),m<=x):
   TJ g sh OQ (s.HD ps i m):=by
 obtain ⟨a1,a2,_⟩:=K0 tj hi hv;obtain ⟨y0,hy0,rfl⟩:∃y0:Nat,y0∈s.held.drop i/\m=(y0:Int):=by
   simp only[nI,AN] at hm;obtain ⟨y,h1,h2⟩:=hm;exact ⟨y,h1,h2.symm⟩
 refine tj.complete (s':=s.HD ps i (y0:Int)) hp ha hl ((a2 y0).1 hy0) (λ z hz1 hz2=>?_) rfl rfl rfl rfl a1 (tj.hso.sublist (List.take_sublist _ _)) rfl (λ x=>?_) (by simp[Sr.HD,HB])
 . have:=Rz (z:Int) ((Asa _ z).2 ((a2 z).2 ⟨hz1,hz2⟩));omega
 . have h1:=Z7 (s.held.drop i) (y0:Int) s.names x (-1) (λ w hw=>by rw[tj.l4];exact (tj.Xs w ((tj.MN w).1 ((a2 w).1 hw).1).1).1)
   show (ER s.names (s.held.drop i) (y0:Int)).getD x (-1)=_
   rw[h1];by_cases h2:x∈s.held.drop i
   . rw[if_pos h2,if_pos ((a2 x).1 h2)]
   . rw[if_neg h2,if_neg (λ h=>h2 ((a2 x).2 h))];rfl
theorem FI.back(h:FI g sh s0 v0 ⟨1,s,v,p1,p2⟩){ps:List Nat}{t:Nat}(hp:s.path=ps++[t]++[v])(ha:s.ad v=(g.getD v []).length)(hl:s.lw v≠s.sn v)(q1 q2:Nat):
   FI g sh s0 v0 ⟨1,s.Rp (ps++[t]) t (min (s.lw t) (s.lw v)),t,q1,q2⟩/\FM g (s.Rp (ps++[t]) t (min (s.lw t) (s.lw v)))<FM g s:=by
 obtain ⟨tj,cu,mo,V1,_,at1,pl,hhl⟩:=h;simp only at pl hhl
 replace tj:TJ g sh OQ s:=tj
 have htp:t∈s.path:=by rw[hp];simp
 have htn:=(tj.Xs t ((tj.MN t).1 (tj.TX t htp)).1).1;have h1:TJ g sh OQ (s.Rp (ps++[t]) t (min (s.lw t) (s.lw v))):=tj.back hp ha hl rfl (λ x=>ET _ _ _ _ _ (by rw[tj.l2];exact htn)) (by simp[Sr.Rp]) rfl rfl rfl rfl rfl;have h2:P1 g (s.Rp (ps++[t]) t (min (s.lw t) (s.lw v)))=P1 g s:=P0 rfl;have h3:Lg g (s.Rp (ps++[t]) t (min (s.lw t) (s.lw v)))=Lg g s:=HU rfl;have h4:s.path.length=(ps++[t]).length+1:=by rw[hp];simp
 refine ⟨⟨h1,by show s.count+_=_;rw[h3];exact cu,mo,V1,λ h=>absurd h (show (1:Nat)≠0 by decide),λ _=>⟨rfl,ps,rfl⟩,by rw[h3];show (ps++[t]).length+_<=_;omega,by rw[h3];exact hhl⟩,?_⟩;unfold FM;rw[h2,h3];show _+_+(ps++[t]).length<_;omega
theorem FI.comp(h:FI g sh s0 v0 ⟨1,s,v,p1,p2⟩){ps:List Nat}{t:Nat}(hp:s.path=ps++[t]++[v])(ha:s.ad v=(g.getD v []).length)(hl:s.lw v=s.sn v){i:Nat}(hi:i<s.held.length)(hv:s.held.getD i 0=v){m:Int}(hm:m∈nI (s.held.drop i))(Rz:∀x∈nI (s.held.drop i),m<=x)(q1 q2:Nat):
   FI g sh s0 v0 ⟨1,s.HD (ps++[t]) i m,t,q1,q2⟩/\FM g (s.HD (ps++[t]) i m)<FM g s/\min (s.lw t) (s.lw v)=s.lw t:=by
 obtain ⟨tj,cu,mo,V1,_,at1,pl,hhl⟩:=h;simp only at pl hhl
 replace tj:TJ g sh OQ s:=tj
 have h1:=tj.HD hp ha hl hi hv hm Rz;have htp:t∈s.path:=by rw[hp];simp
 have Cj:=(tj.last hp).2.2.2.2.2.1 t (by simp);have ZO:=(tj.low t (tj.TX t htp)).1;have h2:P1 g (s.HD (ps++[t]) i m)=P1 g s:=P0 rfl;have h3:Lg g (s.HD (ps++[t]) i m)=Lg g s:=HU rfl;have h4:s.path.length=(ps++[t]).length+1:=by rw[hp];simp
 have h5:(s.held.take i).length<=s.held.length:=by simp;omega
 refine ⟨⟨h1,by show s.count+_=_;rw[h3];exact cu,mo,V1,λ h=>absurd h (show (1:Nat)≠0 by decide),λ _=>⟨rfl,ps,rfl⟩,by rw[h3];show (ps++[t]).length+_<=_;omega,by rw[h3];show (s.held.take i).length+_<=_;omega⟩,?_,by omega⟩;unfold FM;rw[h2,h3];show _+_+(ps++[t]).length<_;omega
theorem Mp(hv:v<g.length)(hl:s.seen.length=g.length)(h0:s.sn v=0):FM g (s.enter v)<FM g s/\(s.enter v).count+Lg g (s.enter v)=s.count+Lg g s/\Lg g (s.enter v)+1=Lg g s:=by
 have h1:=Aca hv hl h0;have h2:P1 g (s.enter v)=P1 g s:=P0 rfl;have h3:(s.enter v).path.length=s.path.length+1:=by simp[Sr.enter]
 have h4:(s.enter v).count=s.count+1:=rfl;refine ⟨?_,by omega,h1⟩;unfold FM;omega
theorem FI.enter(tj:TJ g sh (λ w=>w=v) s)(cu:s.count+Lg g s=g.length)(mo:∀x,s0.sn x≠0->s.sn x≠0)(WH:v0=v∨s.sn v0≠0)(hv:v<g.length)(ho:sh.getD v false=false)(h0:s.sn v=0)(hp:∀p∈s.path,JB g sh p v)
   (pl:s.path.length+Lg g s<=g.length) (hhl:s.held.length+Lg g s<=g.length) (q1 q2:Nat):FI g sh s0 v0 ⟨1,s.enter v,v,q1,q2⟩:=by
 obtain ⟨_,h2,h3⟩:=Mp hv tj.l1 h0;have Eb:∀w,(s.enter v).sn w=if w=v then s.count+1 else s.sn w:=λ w=>ET _ _ _ _ _ (by rw[tj.l1];exact hv)
 refine ⟨tj.enter hv ho h0 hp,by show (s.enter v).count+Lg g (s.enter v)=g.length;omega,λ x hx=>?_,?_,λ h=>absurd h (show (1:Nat)≠0 by decide),λ _=>⟨rfl,s.path,rfl⟩,?_,?_⟩
 . show (s.enter v).sn x≠0
   rw[Eb];split
   . omega
   . exact mo x hx
 . show (s.enter v).sn v0≠0
   rw[Eb];split
   . omega
   . rcases WH with h | h
     . contradiction
     . exact h
 . show (s.enter v).path.length+_<=_
   simp only[Sr.enter,At,Aq,Az] at h3 ⊢;omega
 . show (s.enter v).held.length+_<=_
   simp only[Sr.enter,At,Aq,Az] at h3 ⊢;omega
end
def Awz(g:List (List Int))(sh:List Bool)(s0:Sr)(v0:Nat)(h:Hp):Prop:=∃(s:Sr) (P H:List Nat),TJ g sh OQ s/\s.path=[]/\s.held=[]/\s.count+Lg g s=g.length/\(∀x,s0.sn x≠0->s.sn x≠0)/\s.sn v0≠0/\
 (h=[(1000000,.box [.p (.sl (Cw g)),.p (.sl (CW sh)),.ref 1000001 0 g.length g.length,.ref 1000002 0 g.length g.length,.ref 1000003 0 g.length g.length,.ref 1000004 0 0 P.length,.ref 1000005 0 0 H.length,.p (.int .i64 (s.count:Nat)),.ref 1000006 0 g.length g.length]),(1000001,.arr 3 1 (BT (nI s.seen))),(1000002,.arr 3 1 (BT (nI s.low))),(1000003,.arr 3 1 (BT (nI s.at_))),
   (1000004,.arr 3 1 (BT (nI P))),(1000005,.arr 3 1 (BT (nI H))),(1000006,.arr 3 1 (BT s.names))]∨
  ∃p1 p2,h=[(1000000,.box [.p (.sl (Cw g)),.p (.sl (CW sh)),.ref 1000001 0 g.length g.length,.ref 1000002 0 g.length g.length,.ref 1000003 0 g.length g.length,.ref 0 0 0 P.length,.ref 1 0 0 H.length,.p (.int .i64 (s.count:Nat)),.ref 1000006 0 g.length g.length]),(1000001,.arr 3 1 (BT (nI s.seen))),(1000002,.arr 3 1 (BT (nI s.low))),(1000003,.arr 3 1 (BT (nI s.at_))),
   (1000004,.E4 (FA 1 p1)),(1000005,.E4 (FA 1 p2)),(1000006,.arr 3 1 (BT s.names)),(0,.arr 3 1 (BT (nI P))),(1,.arr 3 1 (BT (nI H)))])
theorem Apf(g:List (List Int))(sh:List Bool)(s0:Sr)(v0:Nat)(hg:g.length<=24)(CS:∀r∈g,r.length<=10000000)(Jn:sh.length=g.length)(hT:TJ g sh OQ s0)(hpa:s0.path=[])(hhe:s0.held=[])(hcu:s0.count+Lg g s0=g.length)
   (hv:v0<g.length) (hvo:sh.getD v0 false=false) (WH:s0.sn v0=0):
   BV prog 118 [.ptr 1000000 0,.p (.int .i64 (v0:Nat))]
     [(1000000,.box (s0.bx g sh s0.path s0.path.length)),(1000001,.arr 3 1 (BT (nI s0.seen))),(1000002,.arr 3 1 (BT (nI s0.low))),(1000003,.arr 3 1 (BT (nI s0.at_))),(1000004,.arr 3 1 (BT (nI s0.path))),(1000005,.arr 3 1 (BT (nI s0.held))),(1000006,.arr 3 1 (BT s0.names))]
     λ h r=>Awz g sh s0 v0 h/\r= .De []:=by
 refine BX func118 rfl Afk (by simp[Tryz.f118]) ?_;unfold Sr.bx;simp only[go_sem];refine Ro FB.Xt (FB.st g sh) (FI g sh s0 v0) (λ b=>FM g b.s) (FM g s0) ?_ ?_
 . intro n ih;obtain ⟨s,rfl⟩:∃s,s=s0:=⟨s0,rfl⟩;obtain ⟨v,rfl⟩:∃v,v=v0:=⟨v0,rfl⟩;have tj:=hT.Ud (λ w=>w=v);have cu:=hcu;have Na:=hv;have Ae5:=hvo;have hvz:=WH;have hpv:∀p∈s.path,JB g sh p v:=by rw[hpa];intro p hp;cases hp
   have pl:s.path.length+Lg g s<=g.length:=by rw[hpa];have:=Ahl g s;simpa using this
   have hhl:s.held.length+Lg g s<=g.length:=by rw[hhe];have:=Ahl g s;simpa using this
   have l1:=tj.l1;have l2:=tj.l2;have Cj:=(Mp Na tj.l1 hvz).1;have hI1:FI g sh s v ⟨1,s.enter v,v,0,0⟩:=FI.enter tj cu (λ _ h=>h) (.inl rfl) Na Ae5 hvz hpv pl hhl 0 0;have i1:(0:Int)<=(v:Int)/\(v:Int)<(g.length:Int):=by omega
   have hwc:IntKind.i64.wrap ((s.count:Int)+1)=((s.count+1:Nat):Int):=Cs (by omega);have gn0:(BT (nI s.seen)).getD v []=[.int .i64 (s.sn v:Nat)]:=by rw[Cg (nI s.seen) v (by rw[Cu];omega),Du];rfl
   have gl0:(BT (nI s.low)).getD v []=[.int .i64 (s.lw v:Nat)]:=by rw[Cg (nI s.low) v (by rw[Cu];omega),Du];rfl
   have i1s:(0:Int)<=(v:Int)/\(v:Int)<(s.seen.length:Int):=by omega
   have i1l:(0:Int)<=(v:Int)/\(v:Int)<(s.low.length:Int):=by omega
   have hpb:s.path.length+1<=24/\s.held.length+1<=24:=by have:=(Mp (g:=g) Na l1 hvz).2.2;omega
   simp only[go_sem,hwc];refine CE mixed (p:=[(0,0),(1,0),(2,0),(3,0),(4,0),(5,0),(6,0),(7,0),(8,0),(9,0),(10,0),(11,0),(12,0),(13,0),(14,0),(15,0),(16,0),(17,0),(18,0),(19,4),(20,4),(21,4)]) (by kernel_rfl) (by simp[C5,get]) ?_;simp only[go_sem,hwc,Ab,i1s,i1l,gn0,gl0];refine Di [(1000000,.box [.p (.sl (Cw g)),.p (.sl (CW sh)),.ref 1000001 0 s.seen.length s.seen.length,.ref 1000002 0 s.low.length s.low.length,.ref 1000003 0 s.at_.length s.at_.length,.ref 1000004 0 s.path.length s.path.length,.ref 1000005 0 s.held.length s.held.length,.p (.int .i64 ((s.count+1:Nat):Int)),.ref 1000006 0 s.names.length s.names.length])] mixed (p:=[(0,0),(1,0),(2,0),(3,0),(4,0),(5,0),(6,0),(9,0),(10,0),(11,0),(12,0),(13,0),(7,1),(14,1),(8,2),(15,2),(16,0),(17,0),(18,4),(19,4),(20,4),(21,4)]) (by kernel_rfl) (by simp[C5,get]) ?_;simp only[go_sem];refine ⟨⟨EN _ _ rfl,by omega,by omega⟩,⟨EN _ _ rfl,by omega,by omega⟩,?_⟩;obtain ⟨s1,Lk⟩:∃s1,s1=s.enter v:=⟨_,rfl⟩;have q1:s.seen.set v (s.count+1)=s1.seen:=by rw[Lk];rfl
   have q2:s.low.set v (s.count+1)=s1.low:=by rw[Lk];rfl
   have q3:s.at_=s1.at_:=by rw[Lk];rfl
   have q4:s.path++[v]=s1.path:=by rw[Lk];rfl
   have q5:s.held++[v]=s1.held:=by rw[Lk];rfl
   have q6:s.count+1=s1.count:=by rw[Lk];rfl
   have q7:s.names=s1.names:=by rw[Lk];rfl
   have q8:s.seen.length=s1.seen.length:=by rw[Lk];simp[Sr.enter]
   have q9:s.low.length=s1.low.length:=by rw[Lk];simp[Sr.enter]
   have q10:s.path.length+1=s1.path.length:=by rw[Lk];simp[Sr.enter]
   have q11:s.held.length+1=s1.held.length:=by rw[Lk];simp[Sr.enter]
   simp only[q1,q2];simp only[q3,q4,q5,q6,q7,q8,q9,q10,q11];rw[<-Lk] at hI1 Cj;have Vi:=hI1;obtain ⟨tj,cu,mo,V1,_,at1,pl,hhl⟩:=hI1;simp only at cu mo V1 pl hhl
   replace tj:TJ g sh OQ s1:=tj
   obtain ⟨_,ps,hp⟩:=at1 (show (1:Nat)≠0 by decide)
   replace hp:s1.path=ps++[v]:=hp
   obtain ⟨r6,PI,Na,Ae5,S1,hps,Ap1⟩:=tj.last hp;have l1:=tj.l1;have l2:=tj.l2;have l3:=tj.l3;have l4:=tj.l4;have i1:(0:Int)<=(v:Int)/\(v:Int)<(g.length:Int):=by omega
   have ga:(BT (nI s1.at_)).getD v []=[.int .i64 (s1.ad v:Nat)]:=by rw[Cg (nI s1.at_) v (by rw[Cu];omega),Du];rfl
   have gg:=H8 g v Na;refine CE mixed (p:=[(0,0),(1,0),(2,0),(3,0),(4,0),(5,0),(6,0),(7,0),(8,0),(9,0),(10,0),(11,0),(12,0),(13,0),(14,0),(15,0)]) (by kernel_rfl) (by simp[C5,get]) ?_;simp only[go_sem,Ab,l1,l2,l3,l4,i1,ga,gg];cases c1:decide ((s1.ad v:Int)<((g.getD v []).length:Int))
   . simp only[go_sem,c1];refine CE mixed (p:=[(0,0),(1,0),(2,0),(3,0),(4,0),(5,0),(6,0),(7,0),(8,0),(9,0),(10,0),(11,0),(12,0),(13,0),(14,3)]) (by kernel_rfl) (by simp[C5,get]) ?_;have hpl:s1.path.length=ps.length+1:=by rw[hp];simp
     have Qk:IntKind.i64.wrap ((s1.path.length:Int) - 1)=((ps.length:Nat):Int):=by rw[hpl,BY (by omega) (by omega)];omega
     have Xv:(0:Int)<=((ps.length:Nat):Int)/\((ps.length:Nat):Int)<=(s1.path.length:Int):=by omega
     have hw3:(((ps.length:Nat):Int) - 0).toNat=ps.length:=by omega
     have gl:(BT (nI s1.low)).getD v []=[.int .i64 (s1.lw v:Nat)]:=by rw[Cg (nI s1.low) v (by rw[Cu];omega),Du];rfl
     have gnv:(BT (nI s1.seen)).getD v []=[.int .i64 (s1.sn v:Nat)]:=by rw[Cg (nI s1.seen) v (by rw[Cu];omega),Du];rfl
     simp only[go_sem,Ab,l1,l2,l3,l4,Qk,Xv,hw3];refine CE mixed (p:=[(0,0),(1,0),(2,0),(3,0),(4,0),(5,0),(6,0),(7,0),(8,0),(9,0),(10,0),(11,0),(12,0),(13,0),(14,0)]) (by kernel_rfl) (by simp[C5,get]) ?_;simp only[go_sem,Ab,l1,l2,l3,l4,i1,gl,gnv];have JU:s1.ad v=(g.getD v []).length:=by have:=Ae c1;have:=tj.atl v;omega
     rcases List.eq_nil_or_concat ps with rfl | ⟨GL,t,Ajn⟩
     . have hlr:=tj.root (v:=v) (by simpa using hp);have c5:decide ((s1.lw v:Int)=(s1.sn v:Int))=true:=Ag (by omega);obtain ⟨i,hi,O9⟩:=AA.1 PI;rw[<-getD_eq (x:=0) hi] at O9;have hc:=GU g sh s1 s1.path 0 i hi (by omega) (K0 tj hi O9).2.2 (λ w hw=>by rw[l4];exact (tj.Xs w ((tj.MN w).1 hw).1).1);simp only[Sr.bx,l1,l2,l3,l4,O9] at hc;simp only[go_sem,c5];refine DY hc ?_;rintro h' r ⟨m,⟨RR,RA⟩,rfl,rfl⟩;have hT':=tj.HD (ps:=[]) hp JU hlr hi O9 RR RA;have DH:i=0:=by
         rcases BQ i with h | h
         . exact h
         . obtain ⟨p,h3,_⟩:=hT'.anc (s1.held.getD 0 0) (by show _∈s1.held.take i;rw[getD_eq (show 0<s1.held.length by omega)];exact AA.2 ⟨0,by simp;omega,by rw[List.getElem_take]⟩);cases h3
       subst DH;simp only[go_sem];refine CR ?_;simp only[go_sem];exact ⟨s1.HD [] 0 m,s1.path,s1.held,hT',rfl,by simp[Sr.HD],by show s1.count+_=_;rw[HU (s':=s1.HD [] 0 m) (s:=s1) rfl];exact cu,mo,V1,.inl rfl⟩
     . obtain rfl:ps=GL++[t]:=by rw[Ajn,List.concat_eq_append]
       have htp:t∈s1.path:=by rw[hp];simp
       have htn:=(tj.Xs t ((tj.MN t).1 (tj.TX t htp)).1).1;have c6:decide ((0:Int)<(((GL++[t]).length:Nat):Int))=true:=Ag (by simp);have hw4:IntKind.i64.wrap ((((GL++[t]).length:Nat):Int) - 1)=((GL.length:Nat):Int):=by rw[BY (by omega) (by omega)];simp
       have i5:(0:Int)<=((GL.length:Nat):Int)/\((GL.length:Nat):Int)<(((GL++[t]).length:Nat):Int):=by simp;omega
       have gp:(BT (nI s1.path)).getD GL.length []=[.int .i64 (t:Nat)]:=by
         rw[Cg (nI s1.path) GL.length (by rw[Cu,hp];simp),Du,hp];simp[List.getD]
       have i6:(0:Int)<=(t:Int)/\(t:Int)<(g.length:Int):=by omega
       have gt:(BT (nI s1.low)).getD t []=[.int .i64 (s1.lw t:Nat)]:=by rw[Cg (nI s1.low) t (by rw[Cu];omega),Du];rfl
       have S0:(if (s1.lw v:Int)<(s1.lw t:Int) then (s1.lw v:Int) else (s1.lw t:Int))=((min (s1.lw t) (s1.lw v):Nat):Int):=by split<;>omega
       have hcp:s1.path.take (GL++[t]).length=GL++[t]:=by rw[hp,List.take_left' rfl]
       cases c5:decide ((s1.lw v:Int)=(s1.sn v:Int))
       . have Dn:s1.lw v≠s1.sn v:=by have:=Ae c5;omega
         simp only[go_sem,c5];simp only[go_sem,c6];refine CE mixed (p:=[(0,0),(1,0),(2,0),(3,0),(4,0),(5,0),(6,0),(7,0),(8,0),(9,0),(10,0),(11,0),(12,0),(13,0),(14,0)]) (by kernel_rfl) (by simp[C5,get]) ?_;simp only[go_sem,Ab,hw4,i5,gp];refine CE mixed (p:=[(0,0),(1,0),(2,0),(3,0),(4,0),(5,0),(6,0),(7,0),(8,0),(9,0),(10,0),(11,0),(12,0),(13,0),(14,0),(15,0),(16,0),(17,0),(18,0),(19,0),(20,0),(21,3)]) (by kernel_rfl) (by simp[C5,get]) ?_;simp only[go_sem,Ab,l1,l2,l3,l4,i6,i1,gt,gl,S0];obtain ⟨k1,k2⟩:=FI.back Vi hp JU Dn (s1.path.length+1) (s1.held.length+1);refine ih ⟨1,s1.Rp (GL++[t]) t (min (s1.lw t) (s1.lw v)),t,(s1.path.length+1),(s1.held.length+1)⟩ _ k1 (Nat.lt_trans k2 Cj) ?_;have e:(⟨s1.seen,s1.low.set t (min (s1.lw t) (s1.lw v)),s1.at_,s1.path.take (GL++[t]).length,s1.held.take s1.held.length,s1.count,s1.names⟩:Sr)=s1.Rp (GL++[t]) t (min (s1.lw t) (s1.lw v)):=by rw[hcp,Aw];rfl
         rw[<-e];refine Wk.trans ?_ (Agf g sh 0 0 1 s1.seen (s1.low.set t (min (s1.lw t) (s1.lw v))) s1.at_ s1.path s1.held (GL++[t]).length s1.held.length s1.count s1.names t (by omega) (Ai _));exact (Wk.forget (by simp[ZF,Cu,C9,l1,l2,l3,l4]))
       . have hlr:s1.lw v=s1.sn v:=by have:=Ad c5;omega
         obtain ⟨i,hi,O9⟩:=AA.1 PI;rw[<-getD_eq (x:=0) hi] at O9;have hc:=GU g sh s1 s1.path (GL++[t]).length i hi (by omega) (K0 tj hi O9).2.2 (λ w hw=>by rw[l4];exact (tj.Xs w ((tj.MN w).1 hw).1).1);simp only[Sr.bx,l1,l2,l3,l4,O9] at hc;simp only[go_sem,c5];refine DY hc ?_;rintro h' r ⟨m,⟨RR,RA⟩,rfl,rfl⟩;obtain ⟨k1,k2,k3⟩:=FI.comp Vi hp JU hlr hi O9 RR RA (s1.path.length+1) (s1.held.length+1);rw[k3] at S0;have hls:s1.low.set t (s1.lw t)=s1.low:=by
           apply List.ext_getElem (by simp);intro j h1 h2;rw[List.getElem_set];split
           . rename_i e;subst e;exact getD_eq h2
           . rfl
         simp only[go_sem];simp only[go_sem,c6];refine CE mixed (p:=[(0,0),(1,0),(2,0),(3,0),(4,0),(5,0),(6,0),(7,0),(8,0),(9,0),(10,0),(11,0),(12,0),(13,0),(14,0)]) (by kernel_rfl) (by simp[C5,get]) ?_;simp only[go_sem,Ab,hw4,i5,gp];refine CE mixed (p:=[(0,0),(1,0),(2,0),(3,0),(4,0),(5,0),(6,0),(7,0),(8,0),(9,0),(10,0),(11,0),(12,0),(13,0),(14,0),(15,0),(16,0),(17,0),(18,0),(19,0),(20,0),(21,3)]) (by kernel_rfl) (by simp[C5,get]) ?_;simp only[go_sem,Ab,l1,l2,l3,l4,i6,i1,gt,gl,S0,hls];refine ih ⟨1,s1.HD (GL++[t]) i m,t,(s1.path.length+1),(s1.held.length+1)⟩ _ k1 (Nat.lt_trans k2 Cj) ?_;have e:(⟨s1.seen,s1.low,s1.at_,s1.path.take (GL++[t]).length,s1.held.take i,s1.count,ER s1.names (s1.held.drop i) m⟩:Sr)=s1.HD (GL++[t]) i m:=by rw[hcp];rfl
         rw[<-e];refine Wk.trans ?_ (Agf g sh 0 0 1 s1.seen s1.low s1.at_ s1.path s1.held (GL++[t]).length i s1.count (ER s1.names (s1.held.drop i) m) t (by omega) (by omega));exact (Wk.forget (by simp[ZF,Cu,C9,l1,l2,l3,l4,HB,hls]))
   . have hk:s1.ad v<(g.getD v []).length:=by have:=Ad c1;omega
     obtain ⟨w,hw,hwn⟩:=tj.rng v _ hk;have gw:(BT (g.getD v [])).getD (s1.ad v) []=[.int .i64 (w:Nat)]:=by rw[Cg _ _ hk,hw]
     have i2:(0:Int)<=(s1.ad v:Int)/\(s1.ad v:Int)<((g.getD v []).length:Int):=by omega
     have i3:(0:Int)<=(w:Int)/\(w:Int)<(g.length:Int):=by omega
     have hrl:(g.getD v []).length<=10000000:=CS _ (by rw[Vn Na];exact AW Na);have hwr:IntKind.i64.wrap ((s1.ad v:Int)+1)=((s1.ad v+1:Nat):Int):=Cs (by omega);have gs:(CW sh).getD w []=[.bool (sh.getD w false)]:=Hj sh w (by omega);have gn:(BT (nI s1.seen)).getD w []=[.int .i64 (s1.sn w:Nat)]:=by rw[Cg (nI s1.seen) w (by rw[Cu];omega),Du];rfl
     have gnm:(BT s1.names).getD w []=[.int .i64 (s1.nm w)]:=by rw[Cg s1.names w (by omega)];simp[Sr.nm,List.getD,show w<s1.names.length by omega]
     simp only[go_sem,c1];refine CE mixed (p:=[(0,0),(1,0),(2,0),(3,0),(4,0),(5,0),(6,0),(7,0),(8,0),(9,0),(10,0),(11,0),(12,0),(13,0),(14,0),(15,0),(16,0)]) (by kernel_rfl) (by simp[C5,get]) ?_;simp only[go_sem,Ab,l1,l2,l3,l4,i1,ga,gg,i2,gw,i3,hwr,gs,Jn];cases c2:sh.getD w false;rotate_left
     . simp only[go_sem,c2];obtain ⟨k1,k2⟩:=FI.Adz Vi hk hw (λ h=>by rw[h] at c2;cases c2) (s1.path.length+1) (s1.held.length+1);refine ih ⟨1,s1.inc v,v,(s1.path.length+1),(s1.held.length+1)⟩ _ k1 (Nat.lt_trans k2 Cj) ?_;rw[show s1.inc v=(⟨s1.seen,s1.low,s1.at_.set v (s1.ad v+1),s1.path.take s1.path.length,s1.held.take s1.held.length,s1.count,s1.names⟩:Sr) by rw[Aw,Aw];rfl];refine Wk.trans ?_ (Agf g sh 0 0 1 s1.seen s1.low (s1.at_.set v (s1.ad v+1)) s1.path s1.held s1.path.length s1.held.length s1.count s1.names v (Ai _) (Ai _));exact (Wk.forget (by simp[ZF,Cu,C9,l1,l2,l3,l4]))
     . simp only[go_sem,c2];simp only[go_sem,c2,Ab,l1,i3,gn];cases c3:decide ((s1.sn w:Int)=0);rotate_left
       . simp only[go_sem,c3];obtain ⟨k1,k2⟩:=FI.Ash Vi hk hw hwn c2 (by have:=Ad c3;omega) (s1.path.length+1) (s1.held.length+1);refine ih ⟨0,s1.inc v,w,(s1.path.length+1),(s1.held.length+1)⟩ _ k1 (Nat.lt_trans k2 Cj) ?_;rw[show s1.inc v=(⟨s1.seen,s1.low,s1.at_.set v (s1.ad v+1),s1.path.take s1.path.length,s1.held.take s1.held.length,s1.count,s1.names⟩:Sr) by rw[Aw,Aw];rfl];refine Wk.trans ?_ (Agf g sh 0 0 0 s1.seen s1.low (s1.at_.set v (s1.ad v+1)) s1.path s1.held s1.path.length s1.held.length s1.count s1.names w (Ai _) (Ai _));exact (Wk.forget (by simp[ZF,Cu,C9,l1,l2,l3,l4]))
       have h3:s1.sn w≠0:=by have:=Ae c3;omega
       simp only[go_sem,c3];simp only[go_sem,c3,Ab,l4,i3,gnm];cases c4:decide (s1.nm w<0)
       . simp only[go_sem,c4];obtain ⟨k1,k2⟩:=FI.Adz Vi hk hw (λ _=>⟨h3,λ hm=>by have:=((tj.MN w).1 hm).2;have:=Ae c4;omega⟩) (s1.path.length+1) (s1.held.length+1);refine ih ⟨1,s1.inc v,v,(s1.path.length+1),(s1.held.length+1)⟩ _ k1 (Nat.lt_trans k2 Cj) ?_;rw[show s1.inc v=(⟨s1.seen,s1.low,s1.at_.set v (s1.ad v+1),s1.path.take s1.path.length,s1.held.take s1.held.length,s1.count,s1.names⟩:Sr) by rw[Aw,Aw];rfl];refine Wk.trans ?_ (Agf g sh 0 0 1 s1.seen s1.low (s1.at_.set v (s1.ad v+1)) s1.path s1.held s1.path.length s1.held.length s1.count s1.names v (Ai _) (Ai _));exact (Wk.forget (by simp[ZF,Cu,C9,l1,l2,l3,l4]))
       . have h4:=Ad c4;have gl:(BT (nI s1.low)).getD v []=[.int .i64 (s1.lw v:Nat)]:=by rw[Cg (nI s1.low) v (by rw[Cu];omega),Du];rfl
         simp only[go_sem,c4];refine CE mixed (p:=[(0,0),(1,0),(2,0),(3,0),(4,0),(5,0),(6,0),(7,0),(8,0),(9,0),(10,0),(11,0),(12,0),(13,0),(14,0),(15,0),(16,0),(17,0),(18,0),(19,0),(20,0),(21,3)]) (by kernel_rfl) (by simp[C5,get]) ?_;have hmn:(if (s1.sn w:Int)<(s1.lw v:Int) then (s1.sn w:Int) else (s1.lw v:Int))=((min (s1.lw v) (s1.sn w):Nat):Int):=by split<;>omega
         simp only[go_sem,Ab,l1,l2,l3,l4,i1,i3,gl,gn,hmn];obtain ⟨k1,k2⟩:=FI.Asg Vi hk hw c2 h3 h4 (s1.path.length+1) (s1.held.length+1);refine ih ⟨1,(s1.inc v).lo1 v (min (s1.lw v) (s1.sn w)),v,(s1.path.length+1),(s1.held.length+1)⟩ _ k1 (Nat.lt_trans k2 Cj) ?_;rw[show (s1.inc v).lo1 v (min (s1.lw v) (s1.sn w))=(⟨s1.seen,s1.low.set v (min (s1.lw v) (s1.sn w)),s1.at_.set v (s1.ad v+1),s1.path.take s1.path.length,s1.held.take s1.held.length,s1.count,s1.names⟩:Sr) by rw[Aw,Aw];rfl];refine Wk.trans ?_ (Agf g sh 0 0 1 s1.seen (s1.low.set v (min (s1.lw v) (s1.sn w))) (s1.at_.set v (s1.ad v+1)) s1.path s1.held s1.path.length s1.held.length s1.count s1.names v (Ai _) (Ai _));exact (Wk.forget (by simp[ZF,Cu,C9,l1,l2,l3,l4]))
 . rintro ⟨Xt,s,v,p1,p2⟩ n hI ih;have Vi:=hI;obtain ⟨tj,cu,mo,V1,at0,at1,pl,hhl⟩:=hI;simp only at tj cu mo V1 at0 at1 pl hhl;by_cases hl:Xt=0
   . subst hl;obtain ⟨Na,Ae5,hvz,hpv⟩:=at0 rfl
     replace tj:TJ g sh (λ w=>w=v) s:=tj
     have l1:=tj.l1;have l2:=tj.l2;have Cj:=(Mp Na tj.l1 hvz).1;have hI1:FI g sh s0 v0 ⟨1,s.enter v,v,p1,p2⟩:=FI.enter tj cu mo (.inr V1) Na Ae5 hvz hpv pl hhl p1 p2;refine ⟨_,rfl,?_⟩;unfold FB.st;have i1:(0:Int)<=(v:Int)/\(v:Int)<(g.length:Int):=by omega
     have hwc:IntKind.i64.wrap ((s.count:Int)+1)=((s.count+1:Nat):Int):=Cs (by omega);have gn0:(BT (nI s.seen)).getD v []=[.int .i64 (s.sn v:Nat)]:=by rw[Cg (nI s.seen) v (by rw[Cu];omega),Du];rfl
     have gl0:(BT (nI s.low)).getD v []=[.int .i64 (s.lw v:Nat)]:=by rw[Cg (nI s.low) v (by rw[Cu];omega),Du];rfl
     have i1s:(0:Int)<=(v:Int)/\(v:Int)<(s.seen.length:Int):=by omega
     have i1l:(0:Int)<=(v:Int)/\(v:Int)<(s.low.length:Int):=by omega
     have hpb:s.path.length+1<=24/\s.held.length+1<=24:=by have:=(Mp (g:=g) Na l1 hvz).2.2;omega
     simp only[go_sem,hwc];refine CE mixed (p:=[(0,0),(1,0),(2,0),(3,0),(4,0),(5,0),(6,0),(7,0),(8,0),(9,0),(10,0),(11,0),(12,0),(13,0),(14,0),(15,0),(16,0),(17,0),(18,0),(19,4),(20,4),(21,4)]) (by kernel_rfl) (by simp[C5,get]) ?_;simp only[go_sem,hwc,Ab,i1s,i1l,gn0,gl0];refine Di [(1000000,.box [.p (.sl (Cw g)),.p (.sl (CW sh)),.ref 1000001 0 s.seen.length s.seen.length,.ref 1000002 0 s.low.length s.low.length,.ref 1000003 0 s.at_.length s.at_.length,.ref 500005 0 s.path.length s.path.length,.ref 500006 0 s.held.length s.held.length,.p (.int .i64 ((s.count+1:Nat):Int)),.ref 1000006 0 s.names.length s.names.length])] mixed (p:=[(0,0),(1,0),(2,0),(3,0),(4,0),(5,0),(6,0),(9,0),(10,0),(11,0),(12,0),(13,0),(7,1),(14,1),(8,2),(15,2),(16,0),(17,0),(18,4),(19,4),(20,4),(21,4)]) (by kernel_rfl) (by simp[C5,get]) ?_;simp only[go_sem];refine ⟨⟨EN _ _ rfl,by omega,by omega⟩,⟨EN _ _ rfl,by omega,by omega⟩,?_⟩;obtain ⟨s1,Lk⟩:∃s1,s1=s.enter v:=⟨_,rfl⟩;have q1:s.seen.set v (s.count+1)=s1.seen:=by rw[Lk];rfl
     have q2:s.low.set v (s.count+1)=s1.low:=by rw[Lk];rfl
     have q3:s.at_=s1.at_:=by rw[Lk];rfl
     have q4:s.path++[v]=s1.path:=by rw[Lk];rfl
     have q5:s.held++[v]=s1.held:=by rw[Lk];rfl
     have q6:s.count+1=s1.count:=by rw[Lk];rfl
     have q7:s.names=s1.names:=by rw[Lk];rfl
     have q8:s.seen.length=s1.seen.length:=by rw[Lk];simp[Sr.enter]
     have q9:s.low.length=s1.low.length:=by rw[Lk];simp[Sr.enter]
     have q10:s.path.length+1=s1.path.length:=by rw[Lk];simp[Sr.enter]
     have q11:s.held.length+1=s1.held.length:=by rw[Lk];simp[Sr.enter]
     simp only[q1,q2];simp only[q3,q4,q5,q6,q7,q8,q9,q10,q11];rw[<-Lk] at hI1 Cj;have Vi:=hI1;obtain ⟨tj,cu,mo,V1,_,at1,pl,hhl⟩:=hI1;simp only at cu mo V1 pl hhl
     replace tj:TJ g sh OQ s1:=tj
     obtain ⟨_,ps,hp⟩:=at1 (show (1:Nat)≠0 by decide)
     replace hp:s1.path=ps++[v]:=hp
     obtain ⟨r6,PI,Na,Ae5,S1,hps,Ap1⟩:=tj.last hp;have l1:=tj.l1;have l2:=tj.l2;have l3:=tj.l3;have l4:=tj.l4;have i1:(0:Int)<=(v:Int)/\(v:Int)<(g.length:Int):=by omega
     have ga:(BT (nI s1.at_)).getD v []=[.int .i64 (s1.ad v:Nat)]:=by rw[Cg (nI s1.at_) v (by rw[Cu];omega),Du];rfl
     have gg:=H8 g v Na;refine CE mixed (p:=[(0,0),(1,0),(2,0),(3,0),(4,0),(5,0),(6,0),(7,0),(8,0),(9,0),(10,0),(11,0),(12,0),(13,0),(14,0),(15,0)]) (by kernel_rfl) (by simp[C5,get]) ?_;simp only[go_sem,Ab,l1,l2,l3,l4,i1,ga,gg];cases c1:decide ((s1.ad v:Int)<((g.getD v []).length:Int))
     . simp only[go_sem,c1];refine CE mixed (p:=[(0,0),(1,0),(2,0),(3,0),(4,0),(5,0),(6,0),(7,0),(8,0),(9,0),(10,0),(11,0),(12,0),(13,0),(14,3)]) (by kernel_rfl) (by simp[C5,get]) ?_;have hpl:s1.path.length=ps.length+1:=by rw[hp];simp
       have Qk:IntKind.i64.wrap ((s1.path.length:Int) - 1)=((ps.length:Nat):Int):=by rw[hpl,BY (by omega) (by omega)];omega
       have Xv:(0:Int)<=((ps.length:Nat):Int)/\((ps.length:Nat):Int)<=(s1.path.length:Int):=by omega
       have hw3:(((ps.length:Nat):Int) - 0).toNat=ps.length:=by omega
       have gl:(BT (nI s1.low)).getD v []=[.int .i64 (s1.lw v:Nat)]:=by rw[Cg (nI s1.low) v (by rw[Cu];omega),Du];rfl
       have gnv:(BT (nI s1.seen)).getD v []=[.int .i64 (s1.sn v:Nat)]:=by rw[Cg (nI s1.seen) v (by rw[Cu];omega),Du];rfl
       simp only[go_sem,Ab,l1,l2,l3,l4,Qk,Xv,hw3];refine CE mixed (p:=[(0,0),(1,0),(2,0),(3,0),(4,0),(5,0),(6,0),(7,0),(8,0),(9,0),(10,0),(11,0),(12,0),(13,0),(14,0)]) (by kernel_rfl) (by simp[C5,get]) ?_;simp only[go_sem,Ab,l1,l2,l3,l4,i1,gl,gnv];have JU:s1.ad v=(g.getD v []).length:=by have:=Ae c1;have:=tj.atl v;omega
       rcases List.eq_nil_or_concat ps with rfl | ⟨GL,t,Ajn⟩
       . have hlr:=tj.root (v:=v) (by simpa using hp);have c5:decide ((s1.lw v:Int)=(s1.sn v:Int))=true:=Ag (by omega);obtain ⟨i,hi,O9⟩:=AA.1 PI;rw[<-getD_eq (x:=0) hi] at O9;have hc:=GU g sh s1 s1.path 0 i hi (by omega) (K0 tj hi O9).2.2 (λ w hw=>by rw[l4];exact (tj.Xs w ((tj.MN w).1 hw).1).1);simp only[Sr.bx,l1,l2,l3,l4,O9] at hc;simp only[go_sem,c5];refine DY hc ?_;rintro h' r ⟨m,⟨RR,RA⟩,rfl,rfl⟩;have hT':=tj.HD (ps:=[]) hp JU hlr hi O9 RR RA;have DH:i=0:=by
           rcases BQ i with h | h
           . exact h
           . obtain ⟨p,h3,_⟩:=hT'.anc (s1.held.getD 0 0) (by show _∈s1.held.take i;rw[getD_eq (show 0<s1.held.length by omega)];exact AA.2 ⟨0,by simp;omega,by rw[List.getElem_take]⟩);cases h3
         subst DH;simp only[go_sem];refine CR ?_;simp only[go_sem];exact ⟨s1.HD [] 0 m,s1.path,s1.held,hT',rfl,by simp[Sr.HD],by show s1.count+_=_;rw[HU (s':=s1.HD [] 0 m) (s:=s1) rfl];exact cu,mo,V1,.inr ⟨p1,p2,rfl⟩⟩
       . obtain rfl:ps=GL++[t]:=by rw[Ajn,List.concat_eq_append]
         have htp:t∈s1.path:=by rw[hp];simp
         have htn:=(tj.Xs t ((tj.MN t).1 (tj.TX t htp)).1).1;have c6:decide ((0:Int)<(((GL++[t]).length:Nat):Int))=true:=Ag (by simp);have hw4:IntKind.i64.wrap ((((GL++[t]).length:Nat):Int) - 1)=((GL.length:Nat):Int):=by rw[BY (by omega) (by omega)];simp
         have i5:(0:Int)<=((GL.length:Nat):Int)/\((GL.length:Nat):Int)<(((GL++[t]).length:Nat):Int):=by simp;omega
         have gp:(BT (nI s1.path)).getD GL.length []=[.int .i64 (t:Nat)]:=by
           rw[Cg (nI s1.path) GL.length (by rw[Cu,hp];simp),Du,hp];simp[List.getD]
         have i6:(0:Int)<=(t:Int)/\(t:Int)<(g.length:Int):=by omega
         have gt:(BT (nI s1.low)).getD t []=[.int .i64 (s1.lw t:Nat)]:=by rw[Cg (nI s1.low) t (by rw[Cu];omega),Du];rfl
         have S0:(if (s1.lw v:Int)<(s1.lw t:Int) then (s1.lw v:Int) else (s1.lw t:Int))=((min (s1.lw t) (s1.lw v):Nat):Int):=by split<;>omega
         have hcp:s1.path.take (GL++[t]).length=GL++[t]:=by rw[hp,List.take_left' rfl]
         cases c5:decide ((s1.lw v:Int)=(s1.sn v:Int))
         . have Dn:s1.lw v≠s1.sn v:=by have:=Ae c5;omega
           simp only[go_sem,c5];simp only[go_sem,c6];refine CE mixed (p:=[(0,0),(1,0),(2,0),(3,0),(4,0),(5,0),(6,0),(7,0),(8,0),(9,0),(10,0),(11,0),(12,0),(13,0),(14,0)]) (by kernel_rfl) (by simp[C5,get]) ?_;simp only[go_sem,Ab,hw4,i5,gp];refine CE mixed (p:=[(0,0),(1,0),(2,0),(3,0),(4,0),(5,0),(6,0),(7,0),(8,0),(9,0),(10,0),(11,0),(12,0),(13,0),(14,0),(15,0),(16,0),(17,0),(18,0),(19,0),(20,0),(21,3)]) (by kernel_rfl) (by simp[C5,get]) ?_;simp only[go_sem,Ab,l1,l2,l3,l4,i6,i1,gt,gl,S0];obtain ⟨k1,k2⟩:=FI.back Vi hp JU Dn p1 p2;refine ih ⟨1,s1.Rp (GL++[t]) t (min (s1.lw t) (s1.lw v)),t,p1,p2⟩ _ k1 (Nat.lt_trans k2 Cj) ?_;have e:(⟨s1.seen,s1.low.set t (min (s1.lw t) (s1.lw v)),s1.at_,s1.path.take (GL++[t]).length,s1.held.take s1.held.length,s1.count,s1.names⟩:Sr)=s1.Rp (GL++[t]) t (min (s1.lw t) (s1.lw v)):=by rw[hcp,Aw];rfl
           rw[<-e];refine Wk.trans ?_ (RG g sh p1 p2 1 s1.seen (s1.low.set t (min (s1.lw t) (s1.lw v))) s1.at_ s1.path s1.held (GL++[t]).length s1.held.length s1.count s1.names t (by omega) (Ai _));exact (Wk.forget (by simp[ZF,Cu,C9,l1,l2,l3,l4]))
         . have hlr:s1.lw v=s1.sn v:=by have:=Ad c5;omega
           obtain ⟨i,hi,O9⟩:=AA.1 PI;rw[<-getD_eq (x:=0) hi] at O9;have hc:=GU g sh s1 s1.path (GL++[t]).length i hi (by omega) (K0 tj hi O9).2.2 (λ w hw=>by rw[l4];exact (tj.Xs w ((tj.MN w).1 hw).1).1);simp only[Sr.bx,l1,l2,l3,l4,O9] at hc;simp only[go_sem,c5];refine DY hc ?_;rintro h' r ⟨m,⟨RR,RA⟩,rfl,rfl⟩;obtain ⟨k1,k2,k3⟩:=FI.comp Vi hp JU hlr hi O9 RR RA p1 p2;rw[k3] at S0;have hls:s1.low.set t (s1.lw t)=s1.low:=by
             apply List.ext_getElem (by simp);intro j h1 h2;rw[List.getElem_set];split
             . rename_i e;subst e;exact getD_eq h2
             . rfl
           simp only[go_sem];simp only[go_sem,c6];refine CE mixed (p:=[(0,0),(1,0),(2,0),(3,0),(4,0),(5,0),(6,0),(7,0),(8,0),(9,0),(10,0),(11,0),(12,0),(13,0),(14,0)]) (by kernel_rfl) (by simp[C5,get]) ?_;simp only[go_sem,Ab,hw4,i5,gp];refine CE mixed (p:=[(0,0),(1,0),(2,0),(3,0),(4,0),(5,0),(6,0),(7,0),(8,0),(9,0),(10,0),(11,0),(12,0),(13,0),(14,0),(15,0),(16,0),(17,0),(18,0),(19,0),(20,0),(21,3)]) (by kernel_rfl) (by simp[C5,get]) ?_;simp only[go_sem,Ab,l1,l2,l3,l4,i6,i1,gt,gl,S0,hls];refine ih ⟨1,s1.HD (GL++[t]) i m,t,p1,p2⟩ _ k1 (Nat.lt_trans k2 Cj) ?_;have e:(⟨s1.seen,s1.low,s1.at_,s1.path.take (GL++[t]).length,s1.held.take i,s1.count,ER s1.names (s1.held.drop i) m⟩:Sr)=s1.HD (GL++[t]) i m:=by rw[hcp];rfl
           rw[<-e];refine Wk.trans ?_ (RG g sh p1 p2 1 s1.seen s1.low s1.at_ s1.path s1.held (GL++[t]).length i s1.count (ER s1.names (s1.held.drop i) m) t (by omega) (by omega));exact (Wk.forget (by simp[ZF,Cu,C9,l1,l2,l3,l4,HB,hls]))
     . have hk:s1.ad v<(g.getD v []).length:=by have:=Ad c1;omega
       obtain ⟨w,hw,hwn⟩:=tj.rng v _ hk;have gw:(BT (g.getD v [])).getD (s1.ad v) []=[.int .i64 (w:Nat)]:=by rw[Cg _ _ hk,hw]
       have i2:(0:Int)<=(s1.ad v:Int)/\(s1.ad v:Int)<((g.getD v []).length:Int):=by omega
       have i3:(0:Int)<=(w:Int)/\(w:Int)<(g.length:Int):=by omega
       have hrl:(g.getD v []).length<=10000000:=CS _ (by rw[Vn Na];exact AW Na);have hwr:IntKind.i64.wrap ((s1.ad v:Int)+1)=((s1.ad v+1:Nat):Int):=Cs (by omega);have gs:(CW sh).getD w []=[.bool (sh.getD w false)]:=Hj sh w (by omega);have gn:(BT (nI s1.seen)).getD w []=[.int .i64 (s1.sn w:Nat)]:=by rw[Cg (nI s1.seen) w (by rw[Cu];omega),Du];rfl
       have gnm:(BT s1.names).getD w []=[.int .i64 (s1.nm w)]:=by rw[Cg s1.names w (by omega)];simp[Sr.nm,List.getD,show w<s1.names.length by omega]
       simp only[go_sem,c1];refine CE mixed (p:=[(0,0),(1,0),(2,0),(3,0),(4,0),(5,0),(6,0),(7,0),(8,0),(9,0),(10,0),(11,0),(12,0),(13,0),(14,0),(15,0),(16,0)]) (by kernel_rfl) (by simp[C5,get]) ?_;simp only[go_sem,Ab,l1,l2,l3,l4,i1,ga,gg,i2,gw,i3,hwr,gs,Jn];cases c2:sh.getD w false;rotate_left
       . simp only[go_sem,c2];obtain ⟨k1,k2⟩:=FI.Adz Vi hk hw (λ h=>by rw[h] at c2;cases c2) p1 p2;refine ih ⟨1,s1.inc v,v,p1,p2⟩ _ k1 (Nat.lt_trans k2 Cj) ?_;rw[show s1.inc v=(⟨s1.seen,s1.low,s1.at_.set v (s1.ad v+1),s1.path.take s1.path.length,s1.held.take s1.held.length,s1.count,s1.names⟩:Sr) by rw[Aw,Aw];rfl];refine Wk.trans ?_ (RG g sh p1 p2 1 s1.seen s1.low (s1.at_.set v (s1.ad v+1)) s1.path s1.held s1.path.length s1.held.length s1.count s1.names v (Ai _) (Ai _));exact (Wk.forget (by simp[ZF,Cu,C9,l1,l2,l3,l4]))
       . simp only[go_sem,c2];simp only[go_sem,c2,Ab,l1,i3,gn];cases c3:decide ((s1.sn w:Int)=0);rotate_left
         . simp only[go_sem,c3];obtain ⟨k1,k2⟩:=FI.Ash Vi hk hw hwn c2 (by have:=Ad c3;omega) p1 p2;refine ih ⟨0,s1.inc v,w,p1,p2⟩ _ k1 (Nat.lt_trans k2 Cj) ?_;rw[show s1.inc v=(⟨s1.seen,s1.low,s1.at_.set v (s1.ad v+1),s1.path.take s1.path.length,s1.held.take s1.held.length,s1.count,s1.names⟩:Sr) by rw[Aw,Aw];rfl];refine Wk.trans ?_ (RG g sh p1 p2 0 s1.seen s1.low (s1.at_.set v (s1.ad v+1)) s1.path s1.held s1.path.length s1.held.length s1.count s1.names w (Ai _) (Ai _));exact (Wk.forget (by simp[ZF,Cu,C9,l1,l2,l3,l4]))
         have h3:s1.sn w≠0:=by have:=Ae c3;omega
         simp only[go_sem,c3];simp only[go_sem,c3,Ab,l4,i3,gnm];cases c4:decide (s1.nm w<0)
         . simp only[go_sem,c4];obtain ⟨k1,k2⟩:=FI.Adz Vi hk hw (λ _=>⟨h3,λ hm=>by have:=((tj.MN w).1 hm).2;have:=Ae c4;omega⟩) p1 p2;refine ih ⟨1,s1.inc v,v,p1,p2⟩ _ k1 (Nat.lt_trans k2 Cj) ?_;rw[show s1.inc v=(⟨s1.seen,s1.low,s1.at_.set v (s1.ad v+1),s1.path.take s1.path.length,s1.held.take s1.held.length,s1.count,s1.names⟩:Sr) by rw[Aw,Aw];rfl];refine Wk.trans ?_ (RG g sh p1 p2 1 s1.seen s1.low (s1.at_.set v (s1.ad v+1)) s1.path s1.held s1.path.length s1.held.length s1.count s1.names v (Ai _) (Ai _));exact (Wk.forget (by simp[ZF,Cu,C9,l1,l2,l3,l4]))
         . have h4:=Ad c4;have gl:(BT (nI s1.low)).getD v []=[.int .i64 (s1.lw v:Nat)]:=by rw[Cg (nI s1.low) v (by rw[Cu];omega),Du];rfl
           simp only[go_sem,c4];refine CE mixed (p:=[(0,0),(1,0),(2,0),(3,0),(4,0),(5,0),(6,0),(7,0),(8,0),(9,0),(10,0),(11,0),(12,0),(13,0),(14,0),(15,0),(16,0),(17,0),(18,0),(19,0),(20,0),(21,3)]) (by kernel_rfl) (by simp[C5,get]) ?_;have hmn:(if (s1.sn w:Int)<(s1.lw v:Int) then (s1.sn w:Int) else (s1.lw v:Int))=((min (s1.lw v) (s1.sn w):Nat):Int):=by split<;>omega
           simp only[go_sem,Ab,l1,l2,l3,l4,i1,i3,gl,gn,hmn];obtain ⟨k1,k2⟩:=FI.Asg Vi hk hw c2 h3 h4 p1 p2;refine ih ⟨1,(s1.inc v).lo1 v (min (s1.lw v) (s1.sn w)),v,p1,p2⟩ _ k1 (Nat.lt_trans k2 Cj) ?_;rw[show (s1.inc v).lo1 v (min (s1.lw v) (s1.sn w))=(⟨s1.seen,s1.low.set v (min (s1.lw v) (s1.sn w)),s1.at_.set v (s1.ad v+1),s1.path.take s1.path.length,s1.held.take s1.held.length,s1.count,s1.names⟩:Sr) by rw[Aw,Aw];rfl];refine Wk.trans ?_ (RG g sh p1 p2 1 s1.seen (s1.low.set v (min (s1.lw v) (s1.sn w))) (s1.at_.set v (s1.ad v+1)) s1.path s1.held s1.path.length s1.held.length s1.count s1.names v (Ai _) (Ai _));exact (Wk.forget (by simp[ZF,Cu,C9,l1,l2,l3,l4]))
   . obtain ⟨rfl,ps,hp⟩:=at1 hl;rw[if_neg hl] at tj;refine ⟨_,rfl,?_⟩;obtain ⟨r6,PI,Na,Ae5,S1,hps,Ap1⟩:=tj.last hp;unfold FB.st;simp only[go_sem];have l1:=tj.l1;have l2:=tj.l2;have l3:=tj.l3;have l4:=tj.l4;have i1:(0:Int)<=(v:Int)/\(v:Int)<(g.length:Int):=by omega
     have ga:(BT (nI s.at_)).getD v []=[.int .i64 (s.ad v:Nat)]:=by rw[Cg (nI s.at_) v (by rw[Cu];omega),Du];rfl
     have gg:=H8 g v Na;refine CE mixed (p:=[(0,0),(1,0),(2,0),(3,0),(4,0),(5,0),(6,0),(7,0),(8,0),(9,0),(10,0),(11,0),(12,0),(13,0),(14,0),(15,0)]) (by kernel_rfl) (by simp[C5,get]) ?_;simp only[go_sem,Ab,l1,l2,l3,l4,i1,ga,gg];cases c1:decide ((s.ad v:Int)<((g.getD v []).length:Int))
     . simp only[go_sem,c1];refine CE mixed (p:=[(0,0),(1,0),(2,0),(3,0),(4,0),(5,0),(6,0),(7,0),(8,0),(9,0),(10,0),(11,0),(12,0),(13,0),(14,3)]) (by kernel_rfl) (by simp[C5,get]) ?_;have hpl:s.path.length=ps.length+1:=by rw[hp];simp
       have Qk:IntKind.i64.wrap ((s.path.length:Int) - 1)=((ps.length:Nat):Int):=by rw[hpl,BY (by omega) (by omega)];omega
       have Xv:(0:Int)<=((ps.length:Nat):Int)/\((ps.length:Nat):Int)<=(s.path.length:Int):=by omega
       have hw3:(((ps.length:Nat):Int) - 0).toNat=ps.length:=by omega
       have gl:(BT (nI s.low)).getD v []=[.int .i64 (s.lw v:Nat)]:=by rw[Cg (nI s.low) v (by rw[Cu];omega),Du];rfl
       have gnv:(BT (nI s.seen)).getD v []=[.int .i64 (s.sn v:Nat)]:=by rw[Cg (nI s.seen) v (by rw[Cu];omega),Du];rfl
       simp only[go_sem,Ab,l1,l2,l3,l4,Qk,Xv,hw3];refine CE mixed (p:=[(0,0),(1,0),(2,0),(3,0),(4,0),(5,0),(6,0),(7,0),(8,0),(9,0),(10,0),(11,0),(12,0),(13,0),(14,0)]) (by kernel_rfl) (by simp[C5,get]) ?_;simp only[go_sem,Ab,l1,l2,l3,l4,i1,gl,gnv];have JU:s.ad v=(g.getD v []).length:=by have:=Ae c1;have:=tj.atl v;omega
       rcases List.eq_nil_or_concat ps with rfl | ⟨GL,t,Ajn⟩
       . have hlr:=tj.root (v:=v) (by simpa using hp);have c5:decide ((s.lw v:Int)=(s.sn v:Int))=true:=Ag (by omega);obtain ⟨i,hi,O9⟩:=AA.1 PI;rw[<-getD_eq (x:=0) hi] at O9;have hc:=GU g sh s s.path 0 i hi (by omega) (K0 tj hi O9).2.2 (λ w hw=>by rw[l4];exact (tj.Xs w ((tj.MN w).1 hw).1).1);simp only[Sr.bx,l1,l2,l3,l4,O9] at hc;simp only[go_sem,c5];refine DY hc ?_;rintro h' r ⟨m,⟨RR,RA⟩,rfl,rfl⟩;have hT':=tj.HD (ps:=[]) hp JU hlr hi O9 RR RA;have DH:i=0:=by
           rcases BQ i with h | h
           . exact h
           . obtain ⟨p,h3,_⟩:=hT'.anc (s.held.getD 0 0) (by show _∈s.held.take i;rw[getD_eq (show 0<s.held.length by omega)];exact AA.2 ⟨0,by simp;omega,by rw[List.getElem_take]⟩);cases h3
         subst DH;simp only[go_sem];refine CR ?_;simp only[go_sem];exact ⟨s.HD [] 0 m,s.path,s.held,hT',rfl,by simp[Sr.HD],by show s.count+_=_;rw[HU (s':=s.HD [] 0 m) (s:=s) rfl];exact cu,mo,V1,.inr ⟨p1,p2,rfl⟩⟩
       . obtain rfl:ps=GL++[t]:=by rw[Ajn,List.concat_eq_append]
         have htp:t∈s.path:=by rw[hp];simp
         have htn:=(tj.Xs t ((tj.MN t).1 (tj.TX t htp)).1).1;have c6:decide ((0:Int)<(((GL++[t]).length:Nat):Int))=true:=Ag (by simp);have hw4:IntKind.i64.wrap ((((GL++[t]).length:Nat):Int) - 1)=((GL.length:Nat):Int):=by rw[BY (by omega) (by omega)];simp
         have i5:(0:Int)<=((GL.length:Nat):Int)/\((GL.length:Nat):Int)<(((GL++[t]).length:Nat):Int):=by simp;omega
         have gp:(BT (nI s.path)).getD GL.length []=[.int .i64 (t:Nat)]:=by
           rw[Cg (nI s.path) GL.length (by rw[Cu,hp];simp),Du,hp];simp[List.getD]
         have i6:(0:Int)<=(t:Int)/\(t:Int)<(g.length:Int):=by omega
         have gt:(BT (nI s.low)).getD t []=[.int .i64 (s.lw t:Nat)]:=by rw[Cg (nI s.low) t (by rw[Cu];omega),Du];rfl
         have S0:(if (s.lw v:Int)<(s.lw t:Int) then (s.lw v:Int) else (s.lw t:Int))=((min (s.lw t) (s.lw v):Nat):Int):=by split<;>omega
         have hcp:s.path.take (GL++[t]).length=GL++[t]:=by rw[hp,List.take_left' rfl]
         cases c5:decide ((s.lw v:Int)=(s.sn v:Int))
         . have Dn:s.lw v≠s.sn v:=by have:=Ae c5;omega
           simp only[go_sem,c5];simp only[go_sem,c6];refine CE mixed (p:=[(0,0),(1,0),(2,0),(3,0),(4,0),(5,0),(6,0),(7,0),(8,0),(9,0),(10,0),(11,0),(12,0),(13,0),(14,0)]) (by kernel_rfl) (by simp[C5,get]) ?_;simp only[go_sem,Ab,hw4,i5,gp];refine CE mixed (p:=[(0,0),(1,0),(2,0),(3,0),(4,0),(5,0),(6,0),(7,0),(8,0),(9,0),(10,0),(11,0),(12,0),(13,0),(14,0),(15,0),(16,0),(17,0),(18,0),(19,0),(20,0),(21,3)]) (by kernel_rfl) (by simp[C5,get]) ?_;simp only[go_sem,Ab,l1,l2,l3,l4,i6,i1,gt,gl,S0];obtain ⟨k1,k2⟩:=FI.back Vi hp JU Dn p1 p2;refine ih ⟨1,s.Rp (GL++[t]) t (min (s.lw t) (s.lw v)),t,p1,p2⟩ _ k1 k2 ?_;have e:(⟨s.seen,s.low.set t (min (s.lw t) (s.lw v)),s.at_,s.path.take (GL++[t]).length,s.held.take s.held.length,s.count,s.names⟩:Sr)=s.Rp (GL++[t]) t (min (s.lw t) (s.lw v)):=by rw[hcp,Aw];rfl
           rw[<-e];refine Wk.trans ?_ (RG g sh p1 p2 1 s.seen (s.low.set t (min (s.lw t) (s.lw v))) s.at_ s.path s.held (GL++[t]).length s.held.length s.count s.names t (by omega) (Ai _));exact (Wk.forget (by simp[ZF,Cu,C9,l1,l2,l3,l4]))
         . have hlr:s.lw v=s.sn v:=by have:=Ad c5;omega
           obtain ⟨i,hi,O9⟩:=AA.1 PI;rw[<-getD_eq (x:=0) hi] at O9;have hc:=GU g sh s s.path (GL++[t]).length i hi (by omega) (K0 tj hi O9).2.2 (λ w hw=>by rw[l4];exact (tj.Xs w ((tj.MN w).1 hw).1).1);simp only[Sr.bx,l1,l2,l3,l4,O9] at hc;simp only[go_sem,c5];refine DY hc ?_;rintro h' r ⟨m,⟨RR,RA⟩,rfl,rfl⟩;obtain ⟨k1,k2,k3⟩:=FI.comp Vi hp JU hlr hi O9 RR RA p1 p2;rw[k3] at S0;have hls:s.low.set t (s.lw t)=s.low:=by
             apply List.ext_getElem (by simp);intro j h1 h2;rw[List.getElem_set];split
             . rename_i e;subst e;exact getD_eq h2
             . rfl
           simp only[go_sem];simp only[go_sem,c6];refine CE mixed (p:=[(0,0),(1,0),(2,0),(3,0),(4,0),(5,0),(6,0),(7,0),(8,0),(9,0),(10,0),(11,0),(12,0),(13,0),(14,0)]) (by kernel_rfl) (by simp[C5,get]) ?_;simp only[go_sem,Ab,hw4,i5,gp];refine CE mixed (p:=[(0,0),(1,0),(2,0),(3,0),(4,0),(5,0),(6,0),(7,0),(8,0),(9,0),(10,0),(11,0),(12,0),(13,0),(14,0),(15,0),(16,0),(17,0),(18,0),(19,0),(20,0),(21,3)]) (by kernel_rfl) (by simp[C5,get]) ?_;simp only[go_sem,Ab,l1,l2,l3,l4,i6,i1,gt,gl,S0,hls];refine ih ⟨1,s.HD (GL++[t]) i m,t,p1,p2⟩ _ k1 k2 ?_;have e:(⟨s.seen,s.low,s.at_,s.path.take (GL++[t]).length,s.held.take i,s.count,ER s.names (s.held.drop i) m⟩:Sr)=s.HD (GL++[t]) i m:=by rw[hcp];rfl
           rw[<-e];refine Wk.trans ?_ (RG g sh p1 p2 1 s.seen s.low s.at_ s.path s.held (GL++[t]).length i s.count (ER s.names (s.held.drop i) m) t (by omega) (by omega));exact (Wk.forget (by simp[ZF,Cu,C9,l1,l2,l3,l4,HB,hls]))
     . have hk:s.ad v<(g.getD v []).length:=by have:=Ad c1;omega
       obtain ⟨w,hw,hwn⟩:=tj.rng v _ hk;have gw:(BT (g.getD v [])).getD (s.ad v) []=[.int .i64 (w:Nat)]:=by rw[Cg _ _ hk,hw]
       have i2:(0:Int)<=(s.ad v:Int)/\(s.ad v:Int)<((g.getD v []).length:Int):=by omega
       have i3:(0:Int)<=(w:Int)/\(w:Int)<(g.length:Int):=by omega
       have hrl:(g.getD v []).length<=10000000:=CS _ (by rw[Vn Na];exact AW Na);have hwr:IntKind.i64.wrap ((s.ad v:Int)+1)=((s.ad v+1:Nat):Int):=Cs (by omega);have gs:(CW sh).getD w []=[.bool (sh.getD w false)]:=Hj sh w (by omega);have gn:(BT (nI s.seen)).getD w []=[.int .i64 (s.sn w:Nat)]:=by rw[Cg (nI s.seen) w (by rw[Cu];omega),Du];rfl
       have gnm:(BT s.names).getD w []=[.int .i64 (s.nm w)]:=by rw[Cg s.names w (by omega)];simp[Sr.nm,List.getD,show w<s.names.length by omega]
       simp only[go_sem,c1];refine CE mixed (p:=[(0,0),(1,0),(2,0),(3,0),(4,0),(5,0),(6,0),(7,0),(8,0),(9,0),(10,0),(11,0),(12,0),(13,0),(14,0),(15,0),(16,0)]) (by kernel_rfl) (by simp[C5,get]) ?_;simp only[go_sem,Ab,l1,l2,l3,l4,i1,ga,gg,i2,gw,i3,hwr,gs,Jn];cases c2:sh.getD w false;rotate_left
       . simp only[go_sem,c2];obtain ⟨k1,k2⟩:=FI.Adz Vi hk hw (λ h=>by rw[h] at c2;cases c2) p1 p2;refine ih ⟨1,s.inc v,v,p1,p2⟩ _ k1 k2 ?_;rw[show s.inc v=(⟨s.seen,s.low,s.at_.set v (s.ad v+1),s.path.take s.path.length,s.held.take s.held.length,s.count,s.names⟩:Sr) by rw[Aw,Aw];rfl];refine Wk.trans ?_ (RG g sh p1 p2 1 s.seen s.low (s.at_.set v (s.ad v+1)) s.path s.held s.path.length s.held.length s.count s.names v (Ai _) (Ai _));exact (Wk.forget (by simp[ZF,Cu,C9,l1,l2,l3,l4]))
       . simp only[go_sem,c2];simp only[go_sem,c2,Ab,l1,i3,gn];cases c3:decide ((s.sn w:Int)=0);rotate_left
         . simp only[go_sem,c3];obtain ⟨k1,k2⟩:=FI.Ash Vi hk hw hwn c2 (by have:=Ad c3;omega) p1 p2;refine ih ⟨0,s.inc v,w,p1,p2⟩ _ k1 k2 ?_;rw[show s.inc v=(⟨s.seen,s.low,s.at_.set v (s.ad v+1),s.path.take s.path.length,s.held.take s.held.length,s.count,s.names⟩:Sr) by rw[Aw,Aw];rfl];refine Wk.trans ?_ (RG g sh p1 p2 0 s.seen s.low (s.at_.set v (s.ad v+1)) s.path s.held s.path.length s.held.length s.count s.names w (Ai _) (Ai _));exact (Wk.forget (by simp[ZF,Cu,C9,l1,l2,l3,l4]))
         have h3:s.sn w≠0:=by have:=Ae c3;omega
         simp only[go_sem,c3];simp only[go_sem,c3,Ab,l4,i3,gnm];cases c4:decide (s.nm w<0)
         . simp only[go_sem,c4];obtain ⟨k1,k2⟩:=FI.Adz Vi hk hw (λ _=>⟨h3,λ hm=>by have:=((tj.MN w).1 hm).2;have:=Ae c4;omega⟩) p1 p2;refine ih ⟨1,s.inc v,v,p1,p2⟩ _ k1 k2 ?_;rw[show s.inc v=(⟨s.seen,s.low,s.at_.set v (s.ad v+1),s.path.take s.path.length,s.held.take s.held.length,s.count,s.names⟩:Sr) by rw[Aw,Aw];rfl];refine Wk.trans ?_ (RG g sh p1 p2 1 s.seen s.low (s.at_.set v (s.ad v+1)) s.path s.held s.path.length s.held.length s.count s.names v (Ai _) (Ai _));exact (Wk.forget (by simp[ZF,Cu,C9,l1,l2,l3,l4]))
         . have h4:=Ad c4;have gl:(BT (nI s.low)).getD v []=[.int .i64 (s.lw v:Nat)]:=by rw[Cg (nI s.low) v (by rw[Cu];omega),Du];rfl
           simp only[go_sem,c4];refine CE mixed (p:=[(0,0),(1,0),(2,0),(3,0),(4,0),(5,0),(6,0),(7,0),(8,0),(9,0),(10,0),(11,0),(12,0),(13,0),(14,0),(15,0),(16,0),(17,0),(18,0),(19,0),(20,0),(21,3)]) (by kernel_rfl) (by simp[C5,get]) ?_;have hmn:(if (s.sn w:Int)<(s.lw v:Int) then (s.sn w:Int) else (s.lw v:Int))=((min (s.lw v) (s.sn w):Nat):Int):=by split<;>omega
           simp only[go_sem,Ab,l1,l2,l3,l4,i1,i3,gl,gn,hmn];obtain ⟨k1,k2⟩:=FI.Asg Vi hk hw c2 h3 h4 p1 p2;refine ih ⟨1,(s.inc v).lo1 v (min (s.lw v) (s.sn w)),v,p1,p2⟩ _ k1 k2 ?_;rw[show (s.inc v).lo1 v (min (s.lw v) (s.sn w))=(⟨s.seen,s.low.set v (min (s.lw v) (s.sn w)),s.at_.set v (s.ad v+1),s.path.take s.path.length,s.held.take s.held.length,s.count,s.names⟩:Sr) by rw[Aw,Aw];rfl];refine Wk.trans ?_ (RG g sh p1 p2 1 s.seen (s.low.set v (min (s.lw v) (s.sn w))) (s.at_.set v (s.ad v+1)) s.path s.held s.path.length s.held.length s.count s.names v (Ai _) (Ai _));exact (Wk.forget (by simp[ZF,Cu,C9,l1,l2,l3,l4]))
structure NB where
 k:Nat
 s:Sr
def NB.st(g:List (List Int))(sh:List Bool)(b:NB):St:=⟨[(1,.p (.sl (CW sh))),(8,.ptr 30 0),(31,.p (.int .i64 (g.length:Nat))),(32,.p (.int .i64 (b.k:Nat)))],
 [(30,.box [.p (.sl (Cw g)),.p (.sl (CW sh)),.ref 21 0 g.length g.length,.ref 23 0 g.length g.length,.ref 25 0 g.length g.length,.ref 40005 0 0 0,.ref 40006 0 0 0,.p (.int .i64 (b.s.count:Nat)),.ref 10028 0 g.length g.length]),
  (25,.arr 3 1 (BT (nI b.s.at_))),(23,.arr 3 1 (BT (nI b.s.low))),(21,.arr 3 1 (BT (nI b.s.seen))),(10028,.arr 3 1 (BT b.s.names)),(40005,.arr 3 1 []),(40006,.arr 3 1 [])],58⟩
def XY(n:Nat):Sr:=⟨List.replicate n 0,List.replicate n 0,List.replicate n 0,[],[],0,List.replicate n (-1)⟩
def NIc(g:List (List Int))(sh:List Bool)(b:NB):Prop:=b.k<=g.length/\TJ g sh OQ b.s/\b.s.path=[]/\b.s.held=[]/\b.s.count+Lg g b.s=g.length/\∀x,x<b.k->sh.getD x false=false->b.s.sn x≠0
theorem As9(n:Nat):nI (List.replicate n 0)=List.replicate n 0:=by simp[nI]
theorem Ax6(g:List (List Int))(sh:List Bool)(k:Nat)(s:Sr)(P H:List Nat):Wk ⟨[(1,.p (.sl (CW sh))),(8,.ptr 30 0),(31,.p (.int .i64 (g.length:Nat))),(32,.p (.int .i64 (k:Nat)))],
     [(30,.box [.p (.sl (Cw g)),.p (.sl (CW sh)),.ref 21 0 g.length g.length,.ref 23 0 g.length g.length,.ref 25 0 g.length g.length,.ref 10052 0 0 P.length,.ref 20052 0 0 H.length,.p (.int .i64 (s.count:Nat)),.ref 10028 0 g.length g.length]),
      (25,.arr 3 1 (BT (nI s.at_))),(23,.arr 3 1 (BT (nI s.low))),(21,.arr 3 1 (BT (nI s.seen))),(10028,.arr 3 1 (BT s.names)),(10052,.arr 3 1 (BT (nI P))),(20052,.arr 3 1 (BT (nI H)))],58⟩ (NB.st g sh ⟨k,s⟩):=by
 refine (Wk.HO (id:=30) (j:=5) (q:=10052) (k:=0) (es:=BT (nI P)) 40005 rfl (by simp[Cu,BS]) rfl (AG _) rfl).trans ?_;refine (Wk.HO (id:=30) (j:=6) (q:=20052) (k:=0) (es:=BT (nI H)) 40006 rfl (by simp[Cu,BS]) rfl (AG _) rfl).trans ?_;exact (Wk.forget (by simp[ZF,NB.st,Cu,BS,List.take_zero]))
theorem Bar(g:List (List Int))(sh:List Bool)(k:Nat)(s:Sr)(P H:List Nat):Wk ⟨[(1,.p (.sl (CW sh))),(8,.ptr 30 0),(31,.p (.int .i64 (g.length:Nat))),(32,.p (.int .i64 (k:Nat)))],
     [(30,.box [.p (.sl (Cw g)),.p (.sl (CW sh)),.ref 21 0 g.length g.length,.ref 23 0 g.length g.length,.ref 25 0 g.length g.length,.ref 40005 0 0 P.length,.ref 40006 0 0 H.length,.p (.int .i64 (s.count:Nat)),.ref 10028 0 g.length g.length]),
      (25,.arr 3 1 (BT (nI s.at_))),(23,.arr 3 1 (BT (nI s.low))),(21,.arr 3 1 (BT (nI s.seen))),(10028,.arr 3 1 (BT s.names)),(40005,.arr 3 1 (BT (nI P))),(40006,.arr 3 1 (BT (nI H)))],58⟩ (NB.st g sh ⟨k,s⟩):=by
 refine (Wk.HO (id:=30) (j:=5) (q:=40005) (k:=0) (es:=BT (nI P)) 10052 rfl (by simp[Cu,BS]) rfl (AG _) rfl).trans ?_;refine (Wk.HO (id:=30) (j:=6) (q:=40006) (k:=0) (es:=BT (nI H)) 20052 rfl (by simp[Cu,BS]) rfl (AG _) rfl).trans ?_;refine Wk.trans ?_ (Ax6 g sh k s [] []);exact (Wk.forget (by simp[ZF,Cu,BS,List.take_zero,nI,BT]))
theorem Agi(g:List (List Int))(sh:List Bool)(hg:g.length<=24)(CS:∀r∈g,r.length<=10000000)(Jn:sh.length=g.length)(hc:EY g sh=some 0)(h00:NIc g sh ⟨0,XY g.length⟩):
   BV prog 67 [.p (.sl (Cw g)),.p (.sl (CW sh))] [] λ h d=>∃s,(TJ g sh OQ s/\s.path=[]/\s.held=[]/\∀x,x<g.length->sh.getD x false=false->s.sn x≠0)/\h=[(0,.arr 3 1 (BT s.names))]/\d= .De [.ref 0 0 g.length g.length,.p (.int .i64 0)]:=by
 have h0:(0:Int)<=((g.length:Nat):Int):=by omega
 refine BX func67 rfl YR (by simp[Tryz.f67]) ?_;simp only[go_sem];refine Cq ((TC g sh 0 hc)) ?_;simp only[go_sem];refine CE mixed (p:=[(0,0),(1,0),(2,0),(4,0),(6,0),(9,0),(3,1),(5,1),(7,1),(8,1),(10,2),(11,0),(12,1),(13,0)]) (by kernel_rfl) (by simp[C5,get]) ?_;have hle:((g.length:Nat):Int)<=((g.length:Nat):Int):=Int.le_refl _;have hl8:((g.length:Nat):Int)*8<=140737488355328:=by omega
 have hl1:((g.length:Nat):Int)<=140737488355328:=by omega
 simp only[go_sem,h0,hle,hl8,hl1];refine Gq ((Ao7 g.length hg)) ?_;simp only[go_sem,h0];refine B3 (NB.st g sh) (NIc g sh) (λ b=>g.length - b.k) ⟨0,XY g.length⟩ h00 ?_ ?_
 . refine (Wk.G6 (id:=30) (j:=5) (q:=40005) (sz:=1) 3 rfl rfl rfl (by decide)).trans ?_;refine (Wk.G6 (id:=30) (j:=6) (q:=40006) (sz:=1) 3 rfl rfl rfl (by decide)).trans ?_;exact (Wk.forget (by simp[ZF,NB.st,XY,As9]))
 rintro ⟨k,s⟩ m ⟨hk,hT,hpa,hhe,hcu,hse⟩ ih;simp only at hk hT hpa hhe hcu hse;unfold NB.st;cases c1:decide ((k:Int)<((g.length:Nat):Int))
 . obtain rfl:k=g.length:=by have:=Ae c1;omega
   have hl:=hT.l4;simp only[go_sem,c1,hl];refine CR ?_;simp only[go_sem,c1,hl];exact ⟨s,⟨hT,hpa,hhe,hse⟩,rfl⟩
 . have Jj:k<g.length:=by simpa using Ad c1
   have h4:(0:Int)<=(k:Int)/\(k:Int)<((g.length:Nat):Int):=by omega
   have h5:(0:Int)<=(k:Int)/\(k:Int)<((sh.length:Nat):Int):=by omega
   have f1:=Hj sh k (by omega);have g1:=Cg (nI s.seen) k (by rw[Cu,hT.l1];exact Jj);rw[Du] at g1;have lse:(nI s.seen).length=g.length:=by rw[Cu,hT.l1]
   cases c2:sh.getD k false
   . rw[c2] at f1;cases c3:decide (((s.seen.getD k 0:Nat):Int)=0)
     . simp only[go_sem,c1,h4,h5,Jn,f1,g1,c3,lse];have GY:s.sn k≠0:=λ h=>by have:=Ae c3;unfold Sr.sn at h;omega
       refine ih ⟨k+1,s⟩ _ ⟨Jj,hT,hpa,hhe,hcu,?_⟩ (by simp only;omega) ?_
       . simp only;intro x hx hxo;rcases AF.1 hx with h1 | rfl
         . exact hse x h1 hxo
         . exact GY
       . rw[Cs (by omega)];exact (Wk.forget (by simp[ZF,NB.st]))
     . have GY:s.sn k=0:=by have:=Ad c3;unfold Sr.sn;omega
       have Mi:=Apf g sh s k hg CS Jn hT hpa hhe hcu Jj c2 GY;unfold Sr.bx at Mi;rw[hpa,hhe,hT.l1,hT.l2,hT.l3,hT.l4] at Mi;simp only[go_sem,c1,h4,h5,Jn,f1,g1,c3,lse];refine DY Mi ?_;rintro h' r ⟨⟨s',P,H,hT',hp',hh',Awd,Aw1,Az8,Mh⟩,rfl⟩;have Avo:∀x,x<k+1->sh.getD x false=false->s'.sn x≠0:=by
         intro x hx hxo;rcases AF.1 hx with h1 | rfl
         . exact Aw1 x (hse x h1 hxo)
         . exact Az8
       rcases Mh with rfl | ⟨p1,p2,rfl⟩
       . simp only[go_sem];refine ih ⟨k+1,s'⟩ _ ⟨Jj,hT',hp',hh',Awd,Avo⟩ (by simp only;omega) ?_;rw[Cs (by omega)];exact Wk.trans (Wk.forget (by simp[ZF,])) (Bar g sh (k+1) s' P H)
       . simp only[go_sem];refine ih ⟨k+1,s'⟩ _ ⟨Jj,hT',hp',hh',Awd,Avo⟩ (by simp only;omega) ?_;rw[Cs (by omega)];exact Wk.trans (Wk.forget (by simp[ZF,])) (Ax6 g sh (k+1) s' P H)
   . rw[c2] at f1;simp only[go_sem,c1,h4,h5,Jn,f1,g1];refine ih ⟨k+1,s⟩ _ ⟨Jj,hT,hpa,hhe,hcu,?_⟩ (by simp only;omega) ?_
     . simp only;intro x hx hxo;rcases AF.1 hx with h1 | rfl
       . exact hse x h1 hxo
       . rw[c2] at hxo;cases hxo
     . rw[Cs (by omega)];exact (Wk.forget (by simp[ZF,NB.st]))
theorem Aia(n v:Nat):(List.replicate n 0:List Nat).getD v 0=0:=by
 simp only[List.getD,Bw];split<;>rfl
theorem Aux(n v:Nat):(List.replicate n (-1):List Int).getD v (-1)=-1:=by
 simp only[List.getD,Bw];split<;>rfl
theorem TJ.init(g:List (List Int))(sh:List Bool)(hr:∀v k,k<(g.getD v []).length->∃w:Nat,(g.getD v []).getD k 0=(w:Int)/\w<g.length):TJ g sh OQ (XY g.length):=by
 have sn0:∀v,(XY g.length).sn v=0:=λ v=>Aia _ v;have ad0:∀v,(XY g.length).ad v=0:=λ v=>Aia _ v;have nm0:∀v,(XY g.length).nm v=-1:=λ v=>Aux _ v;have hh:(XY g.length).held=[]:=rfl;have hp:(XY g.length).path=[]:=rfl;refine ⟨by simp[XY],by simp[XY],by simp[XY],by simp[XY],hr,?_,?_,?_,?_,?_,?_,?_,?_,?_,?_,?_,?_,?_,?_,?_,?_,?_,?_⟩
 . intro v;rw[sn0];exact AG _
 . intro v w _ h;exact absurd (sn0 v) h
 . intro v h;exact absurd (sn0 v) h
 . intro v _;exact ad0 v
 . intro v;rw[ad0];exact AG _
 . intro v;rw[hh,sn0];simp
 . rw[hh];exact List.Pairwise.nil
 . rw[hp];intro p h;cases h
 . rw[hp];exact List.Pairwise.nil
 . intro v h;rw[nm0] at h;omega
 . intro v w h;rw[nm0] at h;omega
 . rw[hh];intro x h;cases h
 . rw[hh];intro x h;cases h
 . rw[hh];intro x h;cases h
 . rw[hp];intro p h;cases h
 . rw[hp];intro p h;cases h
 . rw[hh];intro x h;cases h
 . intro v _;exact nm0 v
theorem TJ.done{g:List (List Int)}{sh:List Bool}{s:Sr}(h:TJ g sh OQ s)(hh:s.held=[])(ha:∀x,x<g.length->sh.getD x false=false->s.sn x≠0)(v:Nat)(hv:v<g.length):
   (sh.getD v false=false->0<=s.nm v/\QO g sh v (s.nm v))/\(sh.getD v false=true->s.nm v=-1):=by
 constructor
 . intro ho;have h1:=ha v hv ho;have h2:0<=s.nm v:=by
     rcases Int.lt_or_le (s.nm v) 0 with h3 | h3
     . have:=(h.MN v).2 ⟨h1,h3⟩;rw[hh] at this;cases this
     . exact h3
   exact ⟨h2,(h.TY v h2).2⟩
 . intro ho;refine h.nmx v ?_;rcases Int.lt_or_le (s.nm v) 0 with h3 | h3
   . exact h3
   . have:=(h.Xs v (h.TY v h3).1).2;rw[ho] at this;cases this
theorem Ahs(n:Nat):(T8 n λ _=>1)=n:=by
 induction n with
 | zero=>rfl
 | succ n ih=>rw[IC,ih]
theorem Ac9(g:List (List Int)):Lg g (XY g.length)=g.length:=by
 unfold Lg;have e:∀v,(XY g.length).sn v=0:=λ v=>Aia _ v;simp only[e,AL];exact Ahs _
theorem An4(g:List (List Int))(sh:List Bool)(hr:∀v k,k<(g.getD v []).length->∃w:Nat,(g.getD v []).getD k 0=(w:Int)/\w<g.length):NIc g sh ⟨0,XY g.length⟩:=by
 refine ⟨AG _,TJ.init g sh hr,rfl,rfl,?_,λ x hx=>absurd hx (A3 _)⟩
 show 0+Lg g (XY g.length)=g.length
 rw[Ac9];omega
def Hl(g:List (List Int))(sh:List Bool)(l:List Int):Prop:=l.length=g.length/\∀v,v<g.length->(sh.getD v false=false->0<=l.getD v (-1)/\QO g sh v (l.getD v (-1)))/\(sh.getD v false=true->l.getD v (-1)=-1)
theorem Adf(g:List (List Int))(sh:List Bool)(CS:∀r∈g,r.length<=2000000)(hc:EY g sh=some 0):
   BV prog 67 [.p (.sl (Cw g)),.p (.sl (CW sh))] [] λ h d=>∃l,Hl g sh l/\h=[(0,.arr 3 1 (BT l))]/\d= .De [.ref 0 0 g.length g.length,.p (.int .i64 0)]:=by
 have hr:∀v,v<g.length->(g.getD v []).length<=2000000:=λ v hv=>CS _ (by rw[List.getD,Ax hv];exact AW hv);obtain ⟨h1,h2,h3⟩:=Agk hr hc;refine BV.mono (Agi g sh h1 (λ r hm=>Bs (CS r hm) (by omega)) h2 hc (An4 g sh h3)) ?_;rintro h d ⟨s,⟨hT,_,hh,ha⟩,rfl,rfl⟩;exact ⟨s.names,⟨hT.l4,λ v hv=>hT.done hh ha v hv⟩,rfl,rfl⟩
theorem Ade(g:List (List Int))(sh:List Bool)(e:Int)(he:e≠0)(hc:EY g sh=some e):
   BV prog 67 [.p (.sl (Cw g)),.p (.sl (CW sh))] [] λ h d=>h=[]/\d= .De [.p (.sl []),.p (.int .i64 e)]:=by
 refine BX func67 rfl YR (by simp[Tryz.f67]) ?_;simp only[go_sem];refine Cq ((TC g sh e hc)) ?_;have c1:decide (e=0)=false:=Ah he;simp only[go_sem,c1];all_goals (try refine BU ?_)
 all_goals (try simp only[go_sem,c1])
theorem Adb(g:List (List Int))(sh:List Bool)(CS:∀r∈g,r.length<=2000000)(hc:EY g sh=some 0):
   BV prog 67 [.p (.sl (Cw g)),.p (.sl (CW sh))] [] λ h d=>∃l,Hl g sh l/\h=[]/\d= .De [.p (.sl (BT l)),.p (.int .i64 0)]:=by
 refine BV.seal (Adf g sh CS hc) ?_;rintro h d ⟨l,hl,rfl,rfl⟩;have h1:=hl.1;have h2:(BT l).length=g.length:=by rw[BS,h1]
 have h3:(BT l).take g.length=BT l:=by rw[<-h2];exact Aw
 refine M3 ?_;simp only[go_sem,h2,h3,Rs.all,NN,AD,Bi];exact ⟨l,hl,rfl⟩
theorem QO.uniq{g:List (List Int)}{sh:List Bool}{v:Nat}{x y:Int}(h:QO g sh v x)(k:QO g sh v y):x=y:=by
 obtain ⟨a,rfl,a1,a2,a3⟩:=h;obtain ⟨b,rfl,b1,b2,b3⟩:=k;have h1:=a3 b b1 b2;have h2:=b3 a a1 a2;omega
theorem Hl.uniq{g:List (List Int)}{sh:List Bool}{l m:List Int}(h:Hl g sh l)(k:Hl g sh m):l=m:=by
 apply List.ext_getElem (by rw[h.1,k.1]);intro v hv RQ;have hg:v<g.length:=by rw[<-h.1];exact hv
 have e1:l.getD v (-1)=l[v]:=by simp[List.getD,hv]
 have e2:m.getD v (-1)=m[v]:=by simp[List.getD,RQ]
 have h1:=h.2 v hg;have h2:=k.2 v hg;rw[e1] at h1;rw[e2] at h2;cases c:sh.getD v false with
 | true=>rw[h1.2 c,h2.2 c]
 | false=>exact (h1.1 c).2.uniq (h2.1 c).2
def Fq(g:List (List Int))(sh:List Bool):List Int:=open Classical in if h:∃l,Hl g sh l then Classical.choose h else []
theorem Qc{g:List (List Int)}{sh:List Bool}{l:List Int}(h:Hl g sh l):Fq g sh=l:=by
 unfold Fq;rw[dif_pos ⟨l,h⟩];exact (Classical.choose_spec (⟨l,h⟩:∃l,Hl g sh l)).uniq h
theorem QO.ex{g:List (List Int)}{sh:List Bool}(v:Nat):∃x,QO g sh v x:=by
 have key:∀n y,y<=n->JB g sh v y->JB g sh y v->∃x,QO g sh v x:=by
   intro n
   induction n with
   | zero=>intro y hy h1 h2;exact ⟨(y:Int),y,rfl,h1,h2,λ z _ _=>by omega⟩
   | succ n ih=>
     intro y hy h1 h2;by_cases hz:∃z,z<y/\JB g sh v z/\JB g sh z v
     . obtain ⟨z,h3,h4,h5⟩:=hz;exact ih z (by omega) h4 h5
     . refine ⟨(y:Int),y,rfl,h1,h2,λ z h3 h4=>?_⟩;rcases Nat.lt_or_ge z y with h5 | h5
       . exact absurd ⟨z,h5,h3,h4⟩ hz
       . exact h5
 exact key v v (Ai _) (.refl v) (.refl v)
theorem Ub{α:Type}(f:Nat->α)(n v:Nat)(hv:v<n)(d:α):((List.range n).map f).getD v d=f v:=by simp[List.getD,hv]
theorem Hl.ex(g:List (List Int))(sh:List Bool):∃l,Hl g sh l:=by
 refine ⟨(List.range g.length).map λ v=>if sh.getD v false=true then -1 else Classical.choose (QO.ex (g:=g) (sh:=sh) v),by simp,λ v hv=>?_⟩;rw[Ub _ _ _ hv];have hs:=Classical.choose_spec (QO.ex (g:=g) (sh:=sh) v);constructor
 . intro h;rw[if_neg (by rw[h];decide)];obtain ⟨y,hy,_⟩:=id hs;exact ⟨by rw[hy];omega,hs⟩
 . intro h;rw[if_pos h]
theorem Qb(g:List (List Int))(sh:List Bool):Hl g sh (Fq g sh):=by
 obtain ⟨l,h⟩:=Hl.ex g sh;rw[Qc h];exact h
def Jf(g:List (List Int))(sh:List Bool):Option (List Int×Int):=
 if ∀r∈g,r.length<=2000000 then (EY g sh).map λ e=>if e=0 then (Fq g sh,0) else ([],e) else none
theorem Aa5(g:List (List Int))(sh:List Bool)(r:List Int×Int)(hr:Jf g sh=some r):
   BV prog 67 [.p (.sl (Cw g)),.p (.sl (CW sh))] [] λ h d=>h=[]/\d= .De [.p (.sl (BT r.1)),.p (.int .i64 r.2)]:=by
 unfold Jf at hr;split at hr
 case isFalse=>cases hr
 rename_i CS;cases hc:EY g sh with
 | none=>rw[hc] at hr;cases hr
 | some e=>
   rw[hc] at hr;simp only[Bk,Al] at hr;subst hr;by_cases he:e=0
   . subst he;refine (Adb g sh CS hc).mono ?_;rintro h d ⟨l,hl,rfl,rfl⟩;rw[if_pos rfl,Qc hl];exact ⟨rfl,rfl⟩
   . rw[if_neg he];refine (Ade g sh e he hc).mono ?_;rintro h d ⟨rfl,rfl⟩;exact ⟨rfl,rfl⟩
theorem EJ(n:Nat)(b:Bool):(CW (List.replicate n b)).take n=CW (List.replicate n b):=by rw[AV];simp[CW]
structure JR where (Pb:Int) (Rk:List Int) (Ch:Int) (cap:Int)
def SN(s:List UInt8):Option (List Ln×Int×Int):=some (Dh s)
theorem o7(s:List UInt8)(r:List Ln×Int×Int)(h:SN s=some r):BV prog 29 [.p (.str s)] [] λ h d=>h=[]/\d= .De [.p (.sl (Gb r.1)),.p (.int .i64 r.2.1),.p (.int .i64 r.2.2)]:=by cases h;exact Adj s
open Classical in noncomputable def lParse_v (l:List Ln):Option (List Dc×Int×Int):=if l.length<=10000000/\∀x∈l,x.fs.length<=10000000 then some (parseV l []) else none
theorem o6(l:List Ln)(r:List Dc×Int×Int)(h:lParse_v l=some r):BV prog 30 [.p (.sl (Gb l))] [] λ h d=>h=[]/\d= .De [.p (.sl (EK r.1)),.p (.int .i64 r.2.1),.p (.int .i64 r.2.2)]:=by unfold lParse_v at h;split at h<;>cases h;rename_i hs;exact Ad4 l hs.1 hs.2
open Classical in noncomputable def lBuild_v (d:List Dc):Option (Nt×Int×Int):=if smallD d then some (nbuildV d) else none
theorem p0(d:List Dc)(r:Nt×Int×Int)(h:lBuild_v d=some r):BV prog 31 [.p (.sl (EK d))] [] λ h q=>h=[]/\q= .De [.agg [.p (.sl (C0 r.1.blocks)),.p (.sl (Cw r.1.next)),.p (.sl (CY r.1.spurs)),.p (.sl (BT r.1.BW)),.p (.int .i64 r.1.cq),.p (.int .i64 r.1.ca),.p (.int .i64 r.1.cd),.p (.int .i64 r.1.cp)],.p (.int .i64 r.2.1),.p (.int .i64 r.2.2)]:=by unfold lBuild_v at h;split at h<;>cases h;rename_i hs;exact Ada d hs
def IG(a0:Nt):Int×Int->Option ((Int×Int)⊕((Int×Int)))
 | (v11,v12)=>cond (decide (v12<((a0.spurs.length:Nat):Int))) (Option.bind (CB a0.spurs v12) λ TW=>cond TW.Cy (some (Sum.inl ((IntKind.i64.wrap (v11+TW.Ch)),(IntKind.i64.wrap (v12+1))))) (some (Sum.inl (v11,(IntKind.i64.wrap (v12+1)))))) (some (Sum.inr (v11,v12)))
def L7(a0:Nt):Option (JR×Int):=
 Option.bind (ES (⟨a0.blocks,a0.next,a0.spurs,a0.BW,a0.cq,a0.ca,a0.cd,a0.cp⟩:Nt)) λ x1=>cond x1 (cond (decide (a0.next.length<10000000)) (Option.bind (Mk a0.next (List.replicate a0.next.length false)) λ (x5,x6,x7)=>Option.bind (Ct (IG a0) (0,0)) (λ (RJ,v26)=>cond (decide (0<x5)) (some ((⟨x5,x6,RJ,(if (IntKind.i64.wrap (x5 - 1))<RJ then (IntKind.i64.wrap (x5 - 1)) else RJ)⟩:JR),0)) (some ((⟨x5,x6,RJ,RJ⟩:JR),0)))) none) (some ((⟨0,[],0,0⟩:JR),20))
theorem o9(a0:Nt)(r:JR×Int)(hr:L7 a0=some r):
   BV prog 18 [.agg [.p (.sl (C0 a0.blocks)),.p (.sl (Cw a0.next)),.p (.sl (CY a0.spurs)),.p (.sl (BT a0.BW)),.p (.int .i64 a0.cq),.p (.int .i64 a0.ca),.p (.int .i64 a0.cd),.p (.int .i64 a0.cp)]] [] λ h d=>h=[]/\d= .De [.agg [.p (.int .i64 r.1.Pb),.p (.sl (BT r.1.Rk)),.p (.int .i64 r.1.Ch),.p (.int .i64 r.1.cap)],.p (.int .i64 r.2)]:=by
 refine BX func18 rfl Als (by simp[Tryz.f18]) ?_;unfold L7 at hr;obtain ⟨x1,g2,hr⟩:=bE hr;try simp only[go_sem]
 refine Cq (J9 (⟨a0.blocks,a0.next,a0.spurs,a0.BW,a0.cq,a0.ca,a0.cd,a0.cp⟩:Nt) _ g2) ?_;cases c3:x1
 . simp only[c3,Aj] at hr;cases hr;(try simp only[go_sem,c3]);all_goals ((try refine BU ?_);(try simp only[go_sem,c3]);try first | rfl | exact ⟨rfl,rfl⟩ | (simp;done))
 simp only[c3,Ak] at hr;try simp only[go_sem,c3]
 refine CE mixed (p:=[(0,0),(1,0),(2,0),(3,0),(4,0),(5,1),(6,2),(7,0),(8,0),(9,0),(10,0),(11,0),(12,4),(13,4),(14,4)]) (by kernel_rfl) (by simp[C5,get]) ?_;obtain ⟨c4,hr⟩:=gE hr;try simp only[go_sem]
 refine ⟨by have:=Ad c4;omega,?_⟩;obtain ⟨⟨x5,x6,x7⟩,g8,hr⟩:=bE hr;try simp only[go_sem,EJ]
 refine Gq (S8 a0.next (List.replicate a0.next.length false) _ g8) ?_;obtain ⟨e16,g17,hr⟩:=bE hr;try simp only[go_sem]
 refine CV g17 (λ q:Int×Int=>⟨[(2,.ptr 2 0),(4,.ptr 4 0),(25,.p (.sl (CY a0.spurs))),(26,.p (.int .i64 ((a0.spurs.length:Nat):Int))),(27,.p (.int .i64 q.2))],[(2,.box [.p (.int .i64 0),.cl [],.p (.int .i64 0),.p (.int .i64 0)]),(4,.box [.p (.int .i64 x5),.p (.sl (BT x6)),.p (.int .i64 q.1),.p (.int .i64 0)])],54⟩) ((Wk.forget (by simp[ZF,ZE,EJ,c3]))) ?_;rintro ⟨v11,v12⟩ m15 Qt Avb;rw[IG.eq_1] at Qt;cases JV:decide (v12<((a0.spurs.length:Nat):Int))
 . simp only[JV,Aj] at Qt;simp only[Aa,BZ] at Qt;cases Qt;(try dsimp only at hr);cases Oy:decide (0<x5)
   . simp only[Oy,Aj] at hr;cases hr;(try simp only[go_sem,JV,Oy]);all_goals ((try refine BU ?_);(try simp only[go_sem,JV,Oy]);try first | rfl | exact ⟨rfl,rfl⟩ | (simp;done))
   simp only[Oy,Ak] at hr;cases hr;(try simp only[go_sem,JV,Oy]);all_goals ((try refine BU ?_);(try simp only[go_sem,JV,Oy]);try first | rfl | exact ⟨rfl,rfl⟩ | (simp;done))
 simp only[JV,Ak] at Qt;obtain ⟨TW,g21,Qt⟩:=bK Qt;have f22:=B5 g21;have f23:(CY a0.spurs).getD (Int.toNat v12) []=[(.str TW.name),(.bool TW.Cy),(.int .i64 TW.Ip),(.int .i64 TW.out),(.int .i64 TW.Ch),(.int .i64 TW.base)]:=B6 _ g21;cases Xc:TW.Cy
 . simp only[Xc,Aj] at Qt;simp only[Aa,B0] at Qt;(try simp only[go_sem,JV,f22,f23,Xc]);exact Avb (v11,(IntKind.i64.wrap (v12+1))) _ Qt ((Wk.forget (by simp[ZF,ZE,EJ,c3,Xc])))
 simp only[Xc,Ak] at Qt;simp only[Aa,B0] at Qt;try simp only[go_sem,JV,f22,f23,Xc]
 exact Avb ((IntKind.i64.wrap (v11+TW.Ch)),(IntKind.i64.wrap (v12+1))) _ Qt ((Wk.forget (by simp[ZF,ZE,EJ,c3,Xc])))
def IH(x2:List Int):Int->Option ((Int)⊕(Int⊕Bool))
 | v6=>cond (decide (v6<((x2.length:Nat):Int))) (Option.bind (CB x2 v6) λ PN=>cond (decide (PN=0)) (some (Sum.inl (IntKind.i64.wrap (v6+1)))) (some (Sum.inr (.inr ((true:Bool)))))) (some (Sum.inr (.inl v6)))
def L8(a0:Nt):Option (Bool):=
 cond (decide (a0.next.length<10000000)) (Option.bind (Jf a0.next (List.replicate a0.next.length false)) λ (x2,x3)=>Option.bind (Ct (IH x2) 0) (λ | .inl v18=>some false | .inr (r19)=>some r19)) none
theorem p3(a0:Nt)(r:Bool)(hr:L8 a0=some r):
   BV prog 32 [.agg [.p (.sl (C0 a0.blocks)),.p (.sl (Cw a0.next)),.p (.sl (CY a0.spurs)),.p (.sl (BT a0.BW)),.p (.int .i64 a0.cq),.p (.int .i64 a0.ca),.p (.int .i64 a0.cd),.p (.int .i64 a0.cp)]] [] λ h d=>h=[]/\d= .p (.bool r):=by
 refine BX func32 rfl Alg (by simp[Tryz.f32]) ?_;unfold L8 at hr;try simp only[go_sem]
 refine CE mixed (p:=[(0,0),(1,0),(2,0),(3,0),(4,0),(5,1),(6,2),(7,0),(8,0),(9,0),(10,0),(11,0)]) (by kernel_rfl) (by simp[C5,get]) ?_;obtain ⟨c1,hr⟩:=gE hr;try simp only[go_sem]
 refine ⟨by have:=Ad c1;omega,?_⟩;obtain ⟨⟨x2,x3⟩,g4,hr⟩:=bE hr;try simp only[go_sem,EJ]
 refine Gq (Aa5 a0.next (List.replicate a0.next.length false) _ g4) ?_;obtain ⟨e10,g11,hr⟩:=bE hr;try simp only[go_sem]
 refine CV g11 (λ q:Int=>⟨[(17,.p (.sl (BT x2))),(18,.p (.int .i64 ((x2.length:Nat):Int))),(19,.p (.int .i64 q))],[],26⟩) ((Wk.forget (by simp[ZF,ZE,EJ]))) ?_;rintro v6 m9 hh7 ih8;rw[IH.eq_1] at hh7;cases c12:decide (v6<((x2.length:Nat):Int))
 . simp only[c12,Aj] at hh7;simp only[Aa,BZ] at hh7;cases hh7;(try dsimp only at hr);cases hr;(try simp only[go_sem,c12]);all_goals ((try refine BU ?_);(try simp only[go_sem,c12]);try first | rfl | exact ⟨rfl,rfl⟩ | (simp;done))
 simp only[c12,Ak] at hh7;obtain ⟨PN,g14,hh7⟩:=bK hh7;have f15:=B5 g14;have f16:(BT x2).getD (Int.toNat v6) []=[(.int .i64 PN)]:=B6 _ g14;cases Oz:decide (PN=0)
 . simp only[Oz,Aj] at hh7;simp only[Aa,BZ] at hh7;cases hh7;(try dsimp only at hr);cases hr;(try simp only[go_sem,c12,f15,f16,Oz]);all_goals ((try refine BU ?_);(try simp only[go_sem,c12,f15,f16,Oz]);try first | rfl | exact ⟨rfl,rfl⟩ | (simp;done))
 simp only[Oz,Ak] at hh7;simp only[Aa,B0] at hh7;try simp only[go_sem,c12,f15,f16,Oz]
 exact ih8 (IntKind.i64.wrap (v6+1)) _ hh7 ((Wk.forget (by simp[ZF,ZE,EJ])))
def Iy(a0:List UInt8):Option (Nt×JR×Int×Int):=
 Option.bind (SN a0) λ (x1,x2,x3)=>cond (decide (x3=0)) (Option.bind (lParse_v x1) λ (x6,x7,x8)=>cond (decide (x8=0)) (Option.bind (lBuild_v x6) λ (DD,VY,PN)=>cond (decide (PN=0)) (Option.bind (L7 (⟨DD.blocks,DD.next,DD.spurs,DD.BW,DD.cq,DD.ca,DD.cd,DD.cp⟩:Nt)) λ (PM,RI)=>Option.bind (L8 (⟨DD.blocks,DD.next,DD.spurs,DD.BW,DD.cq,DD.ca,DD.cd,DD.cp⟩:Nt)) λ x19=>cond x19 (some ((⟨[],[],[],[],0,0,0,0⟩:Nt),(⟨0,[],0,0⟩:JR),VY,17)) (cond (decide (PM.cap<((DD.BW.length:Nat):Int))) (some ((⟨[],[],[],[],0,0,0,0⟩:Nt),(⟨0,[],0,0⟩:JR),VY,18)) (some ((⟨DD.blocks,DD.next,DD.spurs,DD.BW,DD.cq,DD.ca,DD.cd,DD.cp⟩:Nt),(⟨PM.Pb,PM.Rk,PM.Ch,PM.cap⟩:JR),0,RI)))) (some ((⟨[],[],[],[],0,0,0,0⟩:Nt),(⟨0,[],0,0⟩:JR),VY,PN))) (some ((⟨[],[],[],[],0,0,0,0⟩:Nt),(⟨0,[],0,0⟩:JR),x7,x8))) (some ((⟨[],[],[],[],0,0,0,0⟩:Nt),(⟨0,[],0,0⟩:JR),x2,x3))
theorem Qf(a0:List UInt8)(r:Nt×JR×Int×Int)(hr:Iy a0=some r):
   BV prog 10 [.p (.str a0)] [] λ h d=>h=[]/\d= .De [.agg [.p (.sl (C0 r.1.blocks)),.p (.sl (Cw r.1.next)),.p (.sl (CY r.1.spurs)),.p (.sl (BT r.1.BW)),.p (.int .i64 r.1.cq),.p (.int .i64 r.1.ca),.p (.int .i64 r.1.cd),.p (.int .i64 r.1.cp)],.agg [.p (.int .i64 r.2.1.Pb),.p (.sl (BT r.2.1.Rk)),.p (.int .i64 r.2.1.Ch),.p (.int .i64 r.2.1.cap)],.p (.int .i64 r.2.2.1),.p (.int .i64 r.2.2.2)]:=by
 refine BX func10 rfl Alu (by simp[Tryz.f10]) ?_;unfold Iy at hr;try simp only[go_sem]
 refine Abt 1 ?_;obtain ⟨⟨x1,x2,x3⟩,g4,hr⟩:=bE hr;try simp only[go_sem]
 refine Cq (o7 a0 _ g4) ?_;cases c5:decide (x3=0)
 . simp only[c5,Aj] at hr;(try simp only[go_sem,c5]);refine Zx rfl ?_;cases hr;(try simp only[go_sem]);all_goals ((try refine BU ?_);(try simp only[go_sem]);try first | rfl | exact ⟨rfl,rfl⟩ | (simp;done))
 simp only[c5,Ak] at hr;obtain ⟨⟨x6,x7,x8⟩,g9,hr⟩:=bE hr;try simp only[go_sem,c5]
 refine Cq (o6 x1 _ g9) ?_;cases JX:decide (x8=0)
 . simp only[JX,Aj] at hr;(try simp only[go_sem,JX]);refine Zx rfl ?_;cases hr;(try simp only[go_sem]);all_goals ((try refine BU ?_);(try simp only[go_sem]);try first | rfl | exact ⟨rfl,rfl⟩ | (simp;done))
 simp only[JX,Ak] at hr;obtain ⟨⟨DD,VY,PN⟩,g14,hr⟩:=bE hr;try simp only[go_sem,JX]
 refine Cq (p0 x6 _ g14) ?_;cases Jx:decide (PN=0)
 . simp only[Jx,Aj] at hr;(try simp only[go_sem,Jx]);refine Zx rfl ?_;cases hr;(try simp only[go_sem]);all_goals ((try refine BU ?_);(try simp only[go_sem]);try first | rfl | exact ⟨rfl,rfl⟩ | (simp;done))
 simp only[Jx,Ak] at hr;obtain ⟨⟨PM,RI⟩,g18,hr⟩:=bE hr;try simp only[go_sem,Jx]
 refine Cq (o9 (⟨DD.blocks,DD.next,DD.spurs,DD.BW,DD.cq,DD.ca,DD.cd,DD.cp⟩:Nt) _ g18) ?_;obtain ⟨x19,g20,hr⟩:=bE hr;try simp only[go_sem]
 refine Cq (p3 (⟨DD.blocks,DD.next,DD.spurs,DD.BW,DD.cq,DD.ca,DD.cd,DD.cp⟩:Nt) _ g20) ?_;cases c21:x19
 . simp only[c21,Aj] at hr;cases RV:decide (PM.cap<((DD.BW.length:Nat):Int))
   . simp only[RV,Aj] at hr;(try simp only[go_sem,c21,RV]);refine Di [(7,.box [.p (.sl (C0 DD.blocks)),.p (.sl (Cw DD.next)),.p (.sl (CY DD.spurs)),.p (.sl (BT DD.BW)),.p (.int .i64 DD.cq),.p (.int .i64 DD.ca),.p (.int .i64 DD.cd),.p (.int .i64 DD.cp)]),(8,.box [.p (.int .i64 PM.Pb),.p (.sl (BT PM.Rk)),.p (.int .i64 PM.Ch),.p (.int .i64 PM.cap)])] mixed (p:=[(0,0),(1,0),(2,0),(3,2),(4,2),(5,0),(6,0)]) (by kernel_rfl) (by simp[C5,get]) ?_;cases hr;(try simp only[go_sem]);all_goals ((try refine BU ?_);(try simp only[go_sem]);try first | rfl | exact ⟨rfl,rfl⟩ | (simp;done))
   simp only[RV,Ak] at hr;(try simp only[go_sem,c21,RV]);refine Zx rfl ?_;cases hr;(try simp only[go_sem]);all_goals ((try refine BU ?_);(try simp only[go_sem]);try first | rfl | exact ⟨rfl,rfl⟩ | (simp;done))
 simp only[c21,Ak] at hr;try simp only[go_sem,c21]
 refine Zx rfl ?_;cases hr;try simp only[go_sem]
 all_goals ((try refine BU ?_);(try simp only[go_sem]);try first | rfl | exact ⟨rfl,rfl⟩ | (simp;done))
def Db:List CX->Int
 | []=>0
 | s::r=>(if s.Cy=true then s.Ch else 0)+Db r
theorem LJ(l:List CX)(s:CX):Db (l++[s])=Db l+(if s.Cy=true then s.Ch else 0):=by
 induction l with
 | nil=>simp[Db]
 | cons x r ih=>simp only[AR,Db,ih];omega
theorem NG{nb:Nat}{l:List CX}(h:Dw nb l):∀k,k<=l.length->0<=Db (l.take k)/\Db (l.take k)<=4*k
 | 0,_=>by simp[Db]
 | k+1,hk=>by
   have h1:=NG h k (by omega);obtain ⟨_,_,_,_,h5,h6,_⟩:=h k (by omega);rw[Cr l k B8 (by omega),LJ];split<;>omega
def Ht(n:Nt):List Bool:=List.replicate n.next.length false
def GX(n:Nt):JR:=
 let w:=DV n.next (Ht n)
 let s:=Db n.spurs
 ⟨((w.length:Nat):Int),w,s,if 0<w.length/\((w.length:Nat):Int) - 1<s then ((w.length:Nat):Int) - 1 else s⟩
theorem N4{g:List (List Int)}(hg:DI g)(sh:List Bool):(DV g sh).length<=25:=by
 have:=Lm hg sh g.length (Ai _);rw[AV (by simp)] at this;exact this
theorem Adl(n:Nt)(hs:JF n):L7 n=some (if validN n then (GX n,0) else (⟨0,[],0,0⟩,20)):=by
 unfold L7;have hv:=X9 n hs;rw[show (⟨n.blocks,n.next,n.spurs,n.BW,n.cq,n.ca,n.cd,n.cp⟩:Nt)=n from rfl,hv];simp only[Aa];by_cases hn:validN n
 . obtain ⟨hg,_,hl⟩:=DU hn;have Fs:Dw n.blocks.length n.spurs:=hn.2.2.2.2.2.1;have h6:n.spurs.length<=6:=hn.2.1;have Qu:=hg.1;rw[if_pos hn,Ag hn];have c1:decide (n.next.length<10000000)=true:=Ag (by omega);have r7:Ct (IG n) (0,((0:Nat):Int))=some (Db n.spurs,((n.spurs.length:Nat):Int)):=by
     refine C3 (step:=IG n) n.spurs.length (λ k=>(Db (n.spurs.take k),((k:Nat):Int))) _ (λ k hk=>?_) ?_
     . (try dsimp only);have hr:=NG Fs k (by omega);obtain ⟨_,_,_,_,h5,h6,_⟩:=Fs k hk;rw[IG.eq_1];simp only[E8 hk,Ak,Cd _ _ B8 hk,Aa];rw[Cr n.spurs k B8 hk,LJ,Cs (by omega)];cases hd:(n.spurs.getD k B8).Cy
       . simp only[Aj];simp
       . simp only[Ak,AL];rw[BY (by omega) (by omega)]
     . (try dsimp only);rw[IG.eq_1];simp only[FX,Aj];rw[Aw]
   simp only[Ak,c1];rw[Vp hg (by simp)];simp only[Aa];rw[show ((0:Int),(0:Int))=((0:Int),((0:Nat):Int)) from rfl,r7];simp only[Aa];have hgl:=N4 hg (List.replicate n.next.length false);unfold GX Ht;dsimp only;by_cases c2:0<(DV n.next (List.replicate n.next.length false)).length
   . rw[Ag (show (0:Int)<(((DV n.next (List.replicate n.next.length false)).length:Nat):Int) by omega)];simp only[Ak];rw[BY (by omega) (by omega)];by_cases c3:(((DV n.next (List.replicate n.next.length false)).length:Nat):Int) - 1<Db n.spurs
     . rw[if_pos c3,if_pos ⟨c2,c3⟩]
     . rw[if_neg c3,if_neg (λ h=>c3 h.2)]
   . rw[Ah (show ¬(0:Int)<(((DV n.next (List.replicate n.next.length false)).length:Nat):Int) by omega)];simp only[Aj];rw[if_neg (λ h=>c2 h.1)]
 . rw[if_neg hn,Ah hn];simp only[Aj]
def Ox(r:List UInt8):List UInt8:=[98,108,111,99,107,32,97,32,48,32,48,10,98,108,111,99,107,32,98,32,49,32,48,32,35,32,116,104,101,32,111,116,104,101,114,32,111,110,101,10,108,97,110,101,32,97,32,98,32,97,10,100,101,112,111,116,32,100,32,97,32,98,32,50,10]++r
def Pn:List UInt8:=[114,111,98,111,116,32,100,32,50,10]
def Pm:List UInt8:=[114,111,98,111,116,32,100,32,49,10,114,111,98,111,116,32,100,32,50,10]
def exN(l:List Int):Nt:=⟨[⟨[97],0,0⟩,⟨[98],1,0⟩],[[1],[0]],[⟨[100],true,0,1,2,2⟩],l,4,2,1,8⟩
theorem Bal:(Dh (Ox Pn)).2=(0,0):=by kernel_rfl
theorem Bak:(Dh (Ox Pm)).2=(0,0):=by kernel_rfl
theorem Baj:(parseV (Dh (Ox Pn)).1 []).2=(0,0):=by kernel_rfl
theorem Bai:(parseV (Dh (Ox Pm)).1 []).2=(0,0):=by kernel_rfl
theorem Bap:nbuildV (parseV (Dh (Ox Pn)).1 []).1=(exN [3],0,0):=by kernel_rfl
theorem Bao:nbuildV (parseV (Dh (Ox Pm)).1 []).1=(exN [2,3],0,0):=by kernel_rfl
theorem Bah:validN (exN [3]):=by decide
theorem Bag:validN (exN [2,3]):=by decide
theorem Abk{g:List (List Int)}(hg:DI g){v:Nat}(hv:v<g.length):k7 g.length v (g.getD v []):=λ k hk=>by
 have h:=hg.2 v hv k hk;unfold IX at h;unfold okE;have h1:decide ((g.getD v []).getD k 0<0)=false:=Ah (by omega);have h2:decide ((g.length:Int)<=(g.getD v []).getD k 0)=false:=Ah (by omega);have h3:decide ((g.getD v []).getD k 0=(v:Int))=false:=Ah (by omega);rw[h1,h2,h3];by_cases c:k=0
 . rw[Ag c];rfl
 . have h4:decide ((g.getD v []).getD k 0<=(g.getD v []).getD (k - 1) 0)=false:=Ah (by have:=h.2.2.2 (by omega);omega);rw[h4];simp
theorem Ago{g:List (List Int)}(hg:DI g){sh:List Bool}(Jn:sh.length=g.length):Jf g sh=some (Fq g sh,0):=by
 have CS:∀v,v<g.length->(g.getD v []).length<=2000000:=λ v hv=>by have:=KL hg hv;omega
 have DZ:∀r∈g,r.length<=2000000:=λ r hr=>by
   obtain ⟨u,hu,rfl⟩:=AA.1 hr;have e1:g.getD u []=g[u]:=getD_eq hu;have:=CS u hu;rw[e1] at this;exact this
 have hc:EY g sh=some 0:=by
   rw[QM g sh CS];have h1:=hg.1;have h2:∀v,v<g.length->k7 g.length v (g.getD v []):=λ v hv=>Abk hg hv;rw[if_neg (by omega),if_pos (λ v hv=>Ag (h2 v hv)),if_pos Jn]
 unfold Jf;rw[if_pos DZ,hc];rfl
theorem Adm(n:Nt)(hg:DI n.next):L8 n=some (!(Fq n.next (Ht n)).all λ x=>decide (x=0)):=by
 have hn:=Qb n.next (Ht n)
 have h1:=hg.1;unfold L8;have c1:decide (n.next.length<10000000)=true:=Ag (by omega);simp only[c1,Ak];rw[Ago hg (by simp)];simp only[Aa]
 change (Option.bind (Ct (IH (Fq n.next (Ht n))) 0) _)=_
 have hl:(Fq n.next (Ht n)).length<=24:=by rw[hn.1];exact h1
 generalize Fq n.next (Ht n)=l at hl
 have:=GN (step:=IH l) l.length (λ k=>((k:Nat):Int)) (Sum.inl ((l.length:Nat):Int)) (Sum.inr true) (λ k=>decide (l.getD k 0=0)) (λ k hk _=>?_) (λ _=>?_)
 . rw[show ((0:Nat):Int)=0 from rfl] at this;rw[this];by_cases c:∀j,j<l.length->decide (l.getD j 0=0)=true
   . rw[if_pos c];have:(l.all λ x=>decide (x=0))=true:=by
       rw[AB];intro x hx;obtain ⟨j,hj,rfl⟩:=AA.1 hx;have e1:l.getD j 0=l[j]:=getD_eq hj;rw[<-e1];exact c j hj
     rw[this];rfl
   . rw[if_neg c];have:(l.all λ x=>decide (x=0))=false:=by
       cases h:l.all λ x=>decide (x=0)
       . rfl
       . rw[AB] at h;refine absurd (λ j hj=>?_) c;have e1:l.getD j 0=l[j]:=getD_eq hj;rw[e1];exact h _ (AW hj)
     rw[this];rfl
 . rw[IH.eq_1];simp only[E8 hk,Ak,Cd _ _ 0 hk,Aa];rw[Cs (by omega)];by_cases c:l.getD k 0=0
   . simp only[Ag c,Ak,AL]
   . simp only[Ah c,Aj];rfl
 . rw[IH.eq_1];simp only[FX,Aj]
theorem Ax4:Fq [[1],[0]] [false,false]=[0,0]:=by
 have h01:JB [[1],[0]] [false,false] 0 1:= .tail (.refl 0) ⟨by simp,rfl⟩;have Jq:JB [[1],[0]] [false,false] 1 0:= .tail (.refl 1) ⟨by simp,rfl⟩;refine Qc ⟨rfl,λ v hv=>?_⟩;have RQ:v=0∨v=1:=by simp only[Aq,Az] at hv;omega
 rcases RQ with rfl | rfl
 . exact ⟨λ _=>⟨by decide,0,rfl,.refl 0,.refl 0,λ z _ _=>AG z⟩,λ h=>by cases h⟩
 . exact ⟨λ _=>⟨by decide,0,rfl,Jq,h01,λ z _ _=>AG z⟩,λ h=>by cases h⟩
theorem Ax3:((Dh (Ox Pn)).1.length<=100/\∀x∈(Dh (Ox Pn)).1,x.fs.length<=100):=by
 have h:(decide ((Dh (Ox Pn)).1.length<=100)&&(Dh (Ox Pn)).1.all λ x=>decide (x.fs.length<=100))=true:=by kernel_rfl
 rw[Ar,AB] at h;exact ⟨Ad h.1,λ x hx=>Ad (h.2 x hx)⟩
theorem Ax2:((Dh (Ox Pm)).1.length<=100/\∀x∈(Dh (Ox Pm)).1,x.fs.length<=100):=by
 have h:(decide ((Dh (Ox Pm)).1.length<=100)&&(Dh (Ox Pm)).1.all λ x=>decide (x.fs.length<=100))=true:=by kernel_rfl
 rw[Ar,AB] at h;exact ⟨Ad h.1,λ x hx=>Ad (h.2 x hx)⟩
theorem Ban:smallD (parseV (Dh (Ox Pn)).1 []).1:=by
 have h:(decide ((parseV (Dh (Ox Pn)).1 []).1.length<=100)&&(parseV (Dh (Ox Pn)).1 []).1.all λ x=>decide (x.names.length<=100)&&decide (x.B2.length<=100))=true:=by kernel_rfl
 simp only[Ar,AB,Ao] at h;exact ⟨by omega,λ x hx=>by have:=h.2 x hx;omega⟩
theorem Bam:smallD (parseV (Dh (Ox Pm)).1 []).1:=by
 have h:(decide ((parseV (Dh (Ox Pm)).1 []).1.length<=100)&&(parseV (Dh (Ox Pm)).1 []).1.all λ x=>decide (x.names.length<=100)&&decide (x.B2.length<=100))=true:=by kernel_rfl
 simp only[Ar,AB,Ao] at h;exact ⟨by omega,λ x hx=>by have:=h.2 x hx;omega⟩
theorem exC(l:List Int):GX (exN l)=⟨2,[0,1],2,1⟩:=by
 have h:GX (exN [])=⟨2,[0,1],2,1⟩:=by kernel_rfl
 exact h
theorem SM{s:List UInt8}{ls:List Ln}{d:List Dc}{n:Nt}(h1:Dh s=(ls,0,0))(hl:ls.length<=100000/\∀x∈ls,x.fs.length<=100000)(h2:parseV ls []=(d,0,0))(hd:smallD d)(h3:nbuildV d=(n,0,0))(hv:validN n):
   Iy s=some (if ((Fq n.next (Ht n)).all λ x=>decide (x=0))=false then (⟨[],[],[],[],0,0,0,0⟩,⟨0,[],0,0⟩,0,17) else if (GX n).cap<((n.BW.length:Nat):Int) then (⟨[],[],[],[],0,0,0,0⟩,⟨0,[],0,0⟩,0,18) else (n,GX n,0,0)):=by
 have hs:=IN hv;have hg:=(DU hv).1;unfold Iy SN;rw[h1];simp only[Aa,decide_true,Ak];have hp:lParse_v ls=some (d,0,0):=by
   unfold lParse_v;rw[if_pos ⟨by omega,λ x hx=>by have:=hl.2 x hx;omega⟩,h2]
 have hb:lBuild_v d=some (n,0,0):=by
   unfold lBuild_v;rw[if_pos hd,h3]
 rw[hp];simp only[Aa,decide_true,Ak];rw[hb];simp only[Aa,decide_true,Ak];rw[show (⟨n.blocks,n.next,n.spurs,n.BW,n.cq,n.ca,n.cd,n.cp⟩:Nt)=n from rfl,Adl n hs,if_pos hv,Adm n hg];simp only[Aa];cases (Fq n.next (Ht n)).all λ x=>decide (x=0)
 . simp
 . simp only[Bool.not_true,Aj];rw[if_neg (by simp)];by_cases c:(GX n).cap<((n.BW.length:Nat):Int)
   . rw[Ag c,if_pos c];rfl
   . rw[Ah c,if_neg c];rfl
theorem Api:Iy (Ox Pn)=some (exN [3],⟨2,[0,1],2,1⟩,0,0):=by
 rw[SM (ls:=(Dh (Ox Pn)).1) (d:=(parseV (Dh (Ox Pn)).1 []).1) (n:=exN [3]) (by rw[<-Bal]) ⟨by have:=Ax3.1;omega,λ x hx=>by have:=Ax3.2 x hx;omega⟩ (by rw[<-Baj]) Ban Bap Bah,exC];rw[show Fq (exN [3]).next (Ht (exN [3]))=[0,0] from Ax4];rfl
theorem Aph:Iy (Ox Pm)=some (⟨[],[],[],[],0,0,0,0⟩,⟨0,[],0,0⟩,0,18):=by
 rw[SM (ls:=(Dh (Ox Pm)).1) (d:=(parseV (Dh (Ox Pm)).1 []).1) (n:=exN [2,3]) (by rw[<-Bak]) ⟨by have:=Ax2.1;omega,λ x hx=>by have:=Ax2.2 x hx;omega⟩ (by rw[<-Bai]) Bam Bao Bag,exC];rw[show Fq (exN [2,3]).next (Ht (exN [2,3]))=[0,0] from Ax4];rfl
structure Gok(g:List (List Int))(sh:List Bool):Prop where
 n24:g.length<=24
 shl:sh.length=g.length
 rng:∀v k,k<(g.getD v []).length->∃w:Nat,(g.getD v []).getD k 0=(w:Int)/\w<g.length
 rl:∀v,(g.getD v []).length<=100000
theorem Gok.mem{g:List (List Int)}{sh:List Bool}(h:Gok g sh){v:Nat}{y:Int}(hy:y∈g.getD v []):∃w:Nat,y=(w:Int)/\w<g.length:=by
 obtain ⟨k,hk,rfl⟩:=AA.1 hy;have:=h.rng v k hk;rwa[getD_eq hk] at this
def scF(sh:List Bool)(s:List Int×List Bool)(y:Int):List Int×List Bool:=
 if sh.getD y.toNat false=false/\s.2.getD y.toNat false=false then (s.1++[y],s.2.set y.toNat true) else s
structure Arb(sh:List Bool)(row:List Int)(s s':List Int×List Bool):Prop where
 len:s'.2.length=s.2.length
 mono:∀w,s.2.getD w false=true->s'.2.getD w false=true
 new:∀w:Nat,s'.2.getD w false=true->s.2.getD w false=true∨((w:Int)∈row/\sh.getD w false=false/\(w:Int)∈s'.1)
 sub:∀x∈s.1,x∈s'.1
 add:∀x∈s'.1,x∈s.1∨∃w:Nat,x=(w:Int)/\s'.2.getD w false=true
 all:∀w:Nat,(w:Int)∈row->sh.getD w false=false->s'.2.getD w false=true
 cnt:s'.1.length+s'.2.count false=s.1.length+s.2.count false
 tl:s'.1.length<=s.1.length+row.length
theorem Aas(sh:List Bool):∀(row:List Int) (s:List Int×List Bool),(∀y∈row,∃w:Nat,y=(w:Int)/\w<s.2.length)->Arb sh row s (row.foldl (scF sh) s)
 | [],s,_=>⟨rfl,λ _ h=>h,λ _ h=> .inl h,λ _ h=>h,λ _ h=> .inl h,(λ w h=>by cases h),rfl,Ai _⟩
 | y::row,s,hr=>by
   obtain ⟨w0,rfl,Ql⟩:=hr y (List.mem_cons_self);have Abe:(scF sh s (w0:Int)).2.length=s.2.length:=by unfold scF;split<;>simp
   have ih:=Aas sh row (scF sh s (w0:Int)) (λ y hy=>by rw[Abe];exact hr y (Br _ hy));rw[Bf];by_cases hc:sh.getD w0 false=false/\s.2.getD w0 false=false
   . have e:scF sh s (w0:Int)=(s.1++[(w0:Int)],s.2.set w0 true):=by unfold scF;rw[Ab,if_pos hc]
     have g0:∀w,(s.2.set w0 true).getD w false=if w=w0 then true else s.2.getD w false:=λ w=>ET _ _ _ _ _ Ql
     rw[e] at ih ⊢;refine ⟨by rw[ih.len];simp,λ w h=>ih.mono w (by rw[g0];split;rfl;exact h),λ w h=>?_,λ x hx=>ih.sub x (by simp[hx]),λ x hx=>?_,λ w hw ho=>?_,?_,?_⟩
     . rcases ih.new w h with h1 | ⟨h1,h2,h3⟩
       . simp only at h1;rw[g0] at h1;by_cases e1:w=w0
         . subst e1;exact .inr ⟨List.mem_cons_self,hc.1,ih.sub _ (by simp)⟩
         . rw[if_neg e1] at h1;exact .inl h1
       . exact .inr ⟨Br _ h1,h2,h3⟩
     . rcases ih.add x hx with h1 | h1
       . simp only[Au,Av] at h1;rcases h1 with h1 | rfl
         . exact .inl h1
         . exact .inr ⟨w0,rfl,ih.mono w0 (by simp only;rw[g0,if_pos rfl])⟩
       . exact .inr h1
     . rcases AE.1 hw with h1 | h1
       . have:w=w0:=by omega
         subst this;exact ih.mono w (by simp only;rw[g0,if_pos rfl])
       . exact ih.all w h1 ho
     . rw[ih.cnt];simp only[At,Aq,Az];rw[List.count_set Ql];have e2:s.2[w0]=false:=by have:=hc.2;rwa[getD_eq Ql] at this
       rw[e2];have:0<s.2.count false:=List.count_pos_iff.2 (by rw[<-e2];exact AW Ql);simp;omega
     . have:=ih.tl;simp only[At,Aq,Az] at this ⊢;omega
   . have e:scF sh s (w0:Int)=s:=by unfold scF;rw[Ab,if_neg hc]
     rw[e] at ih ⊢;refine ⟨ih.len,ih.mono,λ w h=>?_,ih.sub,ih.add,λ w hw ho=>?_,ih.cnt,?_⟩
     . rcases ih.new w h with h1 | ⟨h1,h2,h3⟩
       . exact .inl h1
       . exact .inr ⟨Br _ h1,h2,h3⟩
     . rcases AE.1 hw with h1 | h1
       . have:w=w0:=by omega
         subst this;refine ih.mono w ?_;cases h9:s.2.getD w false with
         | true=>rfl
         | false=>exact absurd ⟨ho,h9⟩ hc
       . exact ih.all w h1 ho
     . have:=ih.tl;simp only[Aq];omega
structure SI(g:List (List Int))(sh:List Bool)(v:Nat)(t:List Int)(m:List Bool):Prop where
 mn:∀w,m.getD w false=true->w<g.length/\sh.getD w false=false/\JB g sh v w
 tm:∀x∈t,∃w:Nat,x=(w:Int)/\m.getD w false=true
 mv:m.getD v false=true
 cl:∀u,m.getD u false=true->(u:Int)∉t->∀w,Ed g sh u w->m.getD w false=true
 ml:g.length<=m.length
theorem SI.step{g:List (List Int)}{sh:List Bool}{v u:Nat}{t t1:List Int}{m:List Bool}(hg:Gok g sh)(h:SI g sh v t m)(hu:(u:Int)∈t)(h1:∀x∈t,x=(u:Int)∨x∈t1)(h2:∀x∈t1,x∈t):
   Arb sh (g.getD u []) (t1,m) ((g.getD u []).foldl (scF sh) (t1,m))/\SI g sh v ((g.getD u []).foldl (scF sh) (t1,m)).1 ((g.getD u []).foldl (scF sh) (t1,m)).2:=by
 have hsc:=Aas sh (g.getD u []) (t1,m) (λ y hy=>by
   obtain ⟨w,e,hw⟩:=hg.mem hy;exact ⟨w,e,Nat.lt_of_lt_of_le hw h.ml⟩)
 generalize (g.getD u []).foldl (scF sh) (t1,m)=s' at hsc ⊢;obtain ⟨w0,Ql,hmu⟩:=h.tm _ hu;have Az6:w0=u:=by omega
 subst Az6;refine ⟨hsc,λ w hw=>?_,λ x hx=>?_,hsc.mono v h.mv,λ u2 Lt hn w hw=>?_,by rw[hsc.len];exact h.ml⟩
 . rcases hsc.new w hw with h3 | ⟨h3,h4,_⟩
   . exact h.mn w h3
   . obtain ⟨w2,e,Cj⟩:=hg.mem h3;have:w2=w:=by omega
     subst this;exact ⟨Cj,h4,(h.mn _ hmu).2.2.tail ⟨h3,h4⟩⟩
 . rcases hsc.add x hx with h3 | h3
   . obtain ⟨w,e,hw⟩:=h.tm x (h2 x h3);exact ⟨w,e,hsc.mono w hw⟩
   . exact h3
 . rcases hsc.new u2 Lt with h3 | ⟨_,_,h5⟩
   . by_cases Q9:(u2:Int)∈t
     . rcases h1 _ Q9 with h4 | h4
       . have:u2=w0:=by omega
         subst this;exact hsc.all w hw.1 hw.2
       . exact absurd (hsc.sub _ h4) hn
     . exact hsc.mono w (h.cl u2 h3 Q9 w hw)
   . exact absurd h5 hn
theorem SI.done{g:List (List Int)}{sh:List Bool}{v:Nat}{m:List Bool}(h:SI g sh v [] m)(w:Nat):m.getD w false=true↔JB g sh v w:=by
 constructor
 . exact λ hw=>(h.mn w hw).2.2
 . intro hr
   induction hr with
   | refl=>exact h.mv
   | tail _ e ih=>exact h.cl _ ih (by simp) _ e
theorem SI.init{g:List (List Int)}{sh:List Bool}{v n:Nat}(hv:v<g.length)(hn:g.length<=n)(ho:sh.getD v false=false):SI g sh v [(v:Int)] ((List.replicate n false).set v true):=by
 have g0:∀w,((List.replicate n false).set v true).getD w false=if w=v then true else false:=λ w=>by
   rw[ET _ _ _ _ _ (by simp;omega)];split
   . rfl
   . simp only[List.getD,Bw];split<;>rfl
 refine ⟨λ w hw=>?_,λ x hx=>?_,by rw[g0,if_pos rfl],λ u hu hn2=>?_,by simp;omega⟩
 . rw[g0] at hw;split at hw
   . rename_i e;subst e;exact ⟨hv,ho,.refl _⟩
   . cases hw
 . simp at hx;exact ⟨v,hx,by rw[g0,if_pos rfl]⟩
 . rw[g0] at hu;split at hu
   . rename_i e;subst e;exact absurd (by simp) hn2
   . cases hu
def ZA(g:List (List Int)):Prop:=g.length<=24/\∀v,v<g.length->k7 g.length v (g.getD v [])
theorem Wj{n v:Nat}{r:List Int}(h:k7 n v r){i:Nat}(hi:i<r.length):0<=r.getD i 0/\r.getD i 0<(n:Int)/\r.getD i 0≠(v:Int)/\(0<i->r.getD (i - 1) 0<r.getD i 0):=by
 have:=h i hi;unfold okE at this;simp only[Ar,Bool.or_eq_true,Bool.not_eq_true',decide_eq_false_iff_not,Ao] at this;obtain ⟨⟨⟨h1,h2⟩,h3⟩,h4⟩:=this;exact ⟨by omega,by omega,h3,λ h=>by omega⟩
theorem Aio{n v:Nat}{r:List Int}(h:k7 n v r):∀i,i<r.length->(i:Int)<=r.getD i 0
 | 0,hi=>by have:=(Wj h hi).1;omega
 | i+1,hi=>by
   have h1:=Aio h i (by omega);have h2:=(Wj h hi).2.2.2 (by omega);have e:i+1 - 1=i:=rfl;rw[e] at h2;omega
theorem Wi{n v:Nat}{r:List Int}(h:k7 n v r):r.length<=n:=by
 rcases BQ r.length with h0 | h0
 . omega
 . have h1:=Aio h (r.length - 1) (by omega);have h2:=(Wj h (i:=r.length - 1) (by omega)).2.1;omega
theorem ZA.ok{g:List (List Int)}{sh:List Bool}(h:ZA g)(hs:sh.length=g.length):Gok g sh:=by
 refine ⟨h.1,hs,λ v k hk=>?_,λ v=>?_⟩
 . by_cases hv:v<g.length
   . have:=Wj (h.2 v hv) hk;exact ⟨((g.getD v []).getD k 0).toNat,by omega,by omega⟩
   . rw[List.getD,List.getElem?_eq_none (by omega)] at hk;exact absurd hk (A3 _)
 . by_cases hv:v<g.length
   . have:=Wi (h.2 v hv);have:=h.1;omega
   . rw[List.getD,List.getElem?_eq_none (by omega)];simp
theorem Ao3{g:List (List Int)}{r:List Int}(h:r∈g):∃v,v<g.length/\g.getD v []=r:=by
 obtain ⟨v,hv,rfl⟩:=AA.1 h;exact ⟨v,hv,getD_eq hv⟩
theorem ZA.check{g:List (List Int)}{sh:List Bool}(h:ZA g)(hs:sh.length=g.length):EY g sh=some 0:=by
 rw[QM g sh (λ v hv=>by have:=Wi (h.2 v hv);have:=h.1;omega),if_neg (by have:=h.1;omega),if_pos (λ v hv=>Ag (h.2 v hv)),if_pos hs]
theorem ZA.names{g:List (List Int)}{sh:List Bool}(h:ZA g)(hs:sh.length=g.length):Jf g sh=some (Fq g sh,0):=by
 unfold Jf;rw[if_pos (λ r hr=>by
   obtain ⟨v,hv,rfl⟩:=Ao3 hr;have:=Wi (h.2 v hv);have:=h.1;omega),h.check hs]
 rfl
theorem JB.lt{g:List (List Int)}{sh:List Bool}(hg:Gok g sh){v w:Nat}(h:JB g sh v w)(hv:v<g.length):w<g.length:=by
 cases h with
 | refl=>exact hv
 | tail _ e=>
   obtain ⟨w2,e2,Xv⟩:=hg.mem e.1;omega
theorem Hl.lt{g:List (List Int)}{sh:List Bool}(hg:Gok g sh){l:List Int}(h:Hl g sh l){v:Nat}(hv:v<g.length):l.getD v (-1)<(g.length:Int):=by
 cases c:sh.getD v false with
 | true=>rw[(h.2 v hv).2 c];omega
 | false=>
   obtain ⟨_,y,e,h1,_⟩:=(h.2 v hv).1 c;rw[e];have:=h1.lt hg hv;omega
theorem Hl.name{g:List (List Int)}{sh:List Bool}(hg:Gok g sh){nm:List Int}(hn:Hl g sh nm){v:Nat}(hv:v<g.length)(h0:0<=nm.getD v (-1)):
   ∃y:Nat,nm.getD v (-1)=(y:Int)/\y<g.length/\sh.getD v false=false/\sh.getD y false=false/\nm.getD y (-1)=(y:Int)/\y<=v/\JB g sh v y/\JB g sh y v:=by
 have hvo:sh.getD v false=false:=by
   cases c:sh.getD v false with
   | true=>have:=(hn.2 v hv).2 c;omega
   | false=>rfl
 obtain ⟨_,y,e,h1,h2,h3⟩:=(hn.2 v hv).1 hvo;have hy:=h1.lt hg hv;have hyo:sh.getD y false=false:=by
   cases h1 with
   | refl=>exact hvo
   | tail _ e=>exact e.2
 refine ⟨y,e,hy,hvo,hyo,?_,h3 v (.refl v) (.refl v),h1,h2⟩;obtain ⟨_,h4⟩:=(hn.2 y hy).1 hyo;have h5:QO g sh y (y:Int):=⟨y,rfl,.refl y,.refl y,λ z hz hz2=>h3 z (h1.trans hz) (hz2.trans h2)⟩;exact h4.uniq h5
theorem Hl.same{g:List (List Int)}{sh:List Bool}{nm:List Int}(hn:Hl g sh nm){v w:Nat}(hv:v<g.length)(hw:w<g.length)(hvo:sh.getD v false=false)(hwo:sh.getD w false=false)(h1:JB g sh v w)(h2:JB g sh w v):nm.getD v (-1)=nm.getD w (-1):=by
 obtain ⟨_,y,e,a1,a2,a3⟩:=(hn.2 v hv).1 hvo;have:QO g sh w (y:Int):=⟨y,rfl,h2.trans a1,a2.trans h1,λ z b1 b2=>a3 z (h1.trans b1) (b2.trans h2)⟩;rw[e];exact this.uniq ((hn.2 w hw).1 hwo).2
theorem k9{g:List (List Int)}{sh:List Bool}(hg:Gok g sh){nm:List Int}(hn:Hl g sh nm){v w:Nat}(hv:v<g.length)(hw:w<g.length):
   ((sh.getD v false=false/\JB g sh v w)/\(sh.getD w false=false/\JB g sh w v))↔(0<=nm.getD v (-1)/\nm.getD v (-1)=nm.getD w (-1)):=by
 constructor
 . rintro ⟨⟨h1,h2⟩,h3,h4⟩;exact ⟨((hn.2 v hv).1 h1).1,hn.same hv hw h1 h3 h2 h4⟩
 . rintro ⟨h1,h2⟩;obtain ⟨y,ey,_,hvo,_,_,_,vy,yv⟩:=hn.name hg hv h1;obtain ⟨z,ez,_,hwo,_,_,_,wz,zw⟩:=hn.name hg hw (by rw[<-h2];exact h1);have:y=z:=by omega
   subst this;exact ⟨⟨hvo,vy.trans zw⟩,hwo,wz.trans yv⟩
def REp(g:List (List Int))(V K:Nat)(w:Nat)(x:Int):Prop:=∃v k:Nat,(v<V∨v=V/\k<K)/\v<g.length/\k<(g.getD v []).length/\(g.getD v []).getD k 0=(w:Int)/\x=(v:Int)
theorem REp.succ{g:List (List Int)}{V K:Nat}(hV:V<g.length)(hK:K<(g.getD V []).length)(w:Nat)(x:Int):REp g V (K+1) w x↔REp g V K w x∨((g.getD V []).getD K 0=(w:Int)/\x=(V:Int)):=by
 constructor
 . rintro ⟨v,k,h1,h2⟩;by_cases h3:v=V/\k=K
   . obtain ⟨rfl,rfl⟩:=h3;exact .inr h2.2.2
   . exact .inl ⟨v,k,by omega,h2⟩
 . rintro (⟨v,k,h1,h2⟩ | h2)
   . exact ⟨v,k,by omega,h2⟩
   . exact ⟨V,K,by omega,hV,hK,h2⟩
theorem REp.next{g:List (List Int)}{V:Nat}(w:Nat)(x:Int):REp g (V+1) 0 w x↔REp g V (g.getD V []).length w x:=by
 constructor
 . rintro ⟨v,k,h1,h2⟩;by_cases e:v=V
   . subst e;exact ⟨v,k,.inr ⟨rfl,h2.2.1⟩,h2⟩
   . exact ⟨v,k,by omega,h2⟩
 . rintro ⟨v,k,h1,h2⟩;exact ⟨v,k,by omega,h2⟩
def Arc(g:List (List Int))(sh:List Bool):Prop:=(∃v,v<g.length/\sh.getD v false=false)/\∀v w,v<g.length->w<g.length->sh.getD v false=false->sh.getD w false=false->JB g sh v w
theorem X0(n v:Nat):(List.replicate n false).getD v false=false:=by
 simp only[List.getD,Bw];split<;>rfl
theorem Ah0{g:List (List Int)}(hv:ZA g)(h1:0<g.length):(∀v,v<g.length->(Fq g (List.replicate g.length false)).getD v (-1)=0)↔Arc g (List.replicate g.length false):=by
 have hs:(List.replicate g.length false).length=g.length:=by simp
 have hg:=hv.ok hs;have hn:=Qb g (List.replicate g.length false);generalize Jn:List.replicate g.length false=sh at*;have ho:∀v,sh.getD v false=false:=λ v=>by rw[<-Jn];exact X0 _ _
 generalize Fq g sh=nm at hn ⊢;constructor
 . intro h;refine ⟨⟨0,h1,ho 0⟩,λ v w hv hw _ _=>?_⟩;have hm:=(k9 hg hn hv hw).2 ⟨by rw[h v hv];omega,by rw[h v hv,h w hw]⟩;exact hm.1.2
 . rintro ⟨_,DZ⟩ v hv;obtain ⟨y,ey,hy,_,_,hyy,_,_,_⟩:=hn.name hg hv ((hn.2 v hv).1 (ho v)).1;obtain ⟨_,z,ez,_,_,hz⟩:=(hn.2 v hv).1 (ho v);have:=hz 0 (DZ v 0 hv h1 (ho v) (ho 0)) (DZ 0 v h1 hv (ho 0) (ho v));rw[ez];omega
def MI(r:List UInt8):Option (List UInt8):=if r.length<=1000 then some (Ox r) else none
theorem U7(r s:List UInt8)(h:MI r=some s):BV prog 27 [.p (.str r)] [] λ h d=>h=[]/\d= .p (.str s):=by
 unfold MI at h;split at h<;>cases h;rename_i hs;refine BX func27 rfl All (by simp[Tryz.f27]) ?_;simp only[go_sem];refine ⟨by simp[maxLen];omega,?_⟩;simp only[go_sem,Ox];rfl
def OY:Option (Bool):=
 Option.bind (MI [114,111,98,111,116,32,100,32,50,10]) λ x1=>Option.bind (Iy x1) λ (x3,x4,x5,x6)=>Option.bind (MI [114,111,98,111,116,32,100,32,49,10,114,111,98,111,116,32,100,32,50,10]) λ x8=>Option.bind (Iy x8) λ (x10,DD,VY,PN)=>cond (decide (x6=0)) (cond (decide (x5=0)) (cond (decide (x4.Pb=2)) (cond (decide (x4.cap=1)) (cond (decide (x4.Ch=2)) (cond (decide (((x3.BW.length:Nat):Int)=1)) (some (decide (PN=18))) (some false)) (some false)) (some false)) (some false)) (some false)) (some false)
theorem o8(r:Bool)(hr:OY=some r):
   BV prog 8 [] [] λ h d=>h=[]/\d= .p (.bool r):=by
 refine BX func8 rfl Apj (by simp[Tryz.f8]) ?_;unfold OY at hr;obtain ⟨x1,g2,hr⟩:=bE hr;try simp only[go_sem]
 refine Cq (U7 [114,111,98,111,116,32,100,32,50,10] _ g2) ?_;obtain ⟨⟨x3,x4,x5,x6⟩,g7,hr⟩:=bE hr;try simp only[go_sem]
 refine Cq (Qf x1 _ g7) ?_;obtain ⟨x8,g9,hr⟩:=bE hr;try simp only[go_sem]
 refine Cq (U7 [114,111,98,111,116,32,100,32,49,10,114,111,98,111,116,32,100,32,50,10] _ g9) ?_;obtain ⟨⟨x10,DD,VY,PN⟩,g14,hr⟩:=bE hr;try simp only[go_sem]
 refine Cq (Qf x8 _ g14) ?_;cases Jx:decide (x6=0)
 . simp only[Jx,Aj] at hr;cases hr;(try simp only[go_sem,Jx]);all_goals ((try refine BU ?_);(try simp only[go_sem,Jx]);try first | rfl | exact ⟨rfl,rfl⟩ | (simp;done))
 simp only[Jx,Ak] at hr;cases JW:decide (x5=0)
 . simp only[JW,Aj] at hr;cases hr;(try simp only[go_sem,Jx,JW]);all_goals ((try refine BU ?_);(try simp only[go_sem,Jx,JW]);try first | rfl | exact ⟨rfl,rfl⟩ | (simp;done))
 simp only[JW,Ak] at hr;cases Oz:decide (x4.Pb=2)
 . simp only[Oz,Aj] at hr;cases hr;(try simp only[go_sem,Jx,JW,Oz]);all_goals ((try refine BU ?_);(try simp only[go_sem,Jx,JW,Oz]);try first | rfl | exact ⟨rfl,rfl⟩ | (simp;done))
 simp only[Oz,Ak] at hr;cases JV:decide (x4.cap=1)
 . simp only[JV,Aj] at hr;cases hr;(try simp only[go_sem,Jx,JW,Oz,JV]);all_goals ((try refine BU ?_);(try simp only[go_sem,Jx,JW,Oz,JV]);try first | rfl | exact ⟨rfl,rfl⟩ | (simp;done))
 simp only[JV,Ak] at hr;cases Oy:decide (x4.Ch=2)
 . simp only[Oy,Aj] at hr;cases hr;(try simp only[go_sem,Jx,JW,Oz,JV,Oy]);all_goals ((try refine BU ?_);(try simp only[go_sem,Jx,JW,Oz,JV,Oy]);try first | rfl | exact ⟨rfl,rfl⟩ | (simp;done))
 simp only[Oy,Ak] at hr;cases c20:decide (((x3.BW.length:Nat):Int)=1)
 . simp only[c20,Aj] at hr;cases hr;(try simp only[go_sem,Jx,JW,Oz,JV,Oy,c20]);all_goals ((try refine BU ?_);(try simp only[go_sem,Jx,JW,Oz,JV,Oy,c20]);try first | rfl | exact ⟨rfl,rfl⟩ | (simp;done))
 simp only[c20,Ak] at hr;cases hr;try simp only[go_sem,Jx,JW,Oz,JV,Oy,c20]
 all_goals ((try refine BU ?_);(try simp only[go_sem,Jx,JW,Oz,JV,Oy,c20]);try first | rfl | exact ⟨rfl,rfl⟩ | (simp;done))
theorem Adk:OY=some true:=by
 have t1:MI [114,111,98,111,116,32,100,32,50,10]=some (Ox Pn):=rfl;have t2:MI [114,111,98,111,116,32,100,32,49,10,114,111,98,111,116,32,100,32,50,10]=some (Ox Pm):=rfl;unfold OY;rw[t1,t2];simp only[Aa];rw[Api,Aph];rfl
theorem p4:BV prog 8 [] [] λ h d=>h=[]/\d= .p (.bool true):=o8 true Adk
theorem Acd{g:List (List Int)}(hg:DI g)(sh:List Bool){v:Nat}(hv:v<g.length):(E3 g sh v).length=0∨2<=(E3 g sh v).length:=by
 unfold E3;split
 . simp
 . rename_i ho;(try dsimp only);split
   . simp
   . rename_i h2;right;have hD:=Px hg hv (sh:=sh) (by simpa using ho);have hb:=HK (Dv g sh v) (g.getD v []) (-1)
     change F4 (Dv g sh v) (g.getD v [])=-1∨(F4 (Dv g sh v) (g.getD v [])∈g.getD v []/\_) at hb
     rw[Aq,IK];rcases hb with h | h
     . omega
     . have hr:=F9 hg hv h.1;have hz:=hD.zero (F4 (Dv g sh v) (g.getD v [])).toNat (by omega);have h3:=h.2
       change 0<=(Dv g sh v).getD (F4 (Dv g sh v) (g.getD v [])).toNat 0 at h3
       have:¬(Dv g sh v).getD (F4 (Dv g sh v) (g.getD v [])).toNat 0=0:=λ h0=>by have:=hz.1 h0;omega
       omega
theorem w8{g:List (List Int)}(hg:DI g)(sh:List Bool):(DV g sh).length=0∨2<=(DV g sh).length:=by
 have key:∀(l:List Nat) (b:List Int),(∀v∈l,v<g.length)->(b.length=0∨2<=b.length)->((l.map (E3 g sh)).foldl Ik b).length=0∨2<=((l.map (E3 g sh)).foldl Ik b).length:=by
   intro l
   induction l with
   | nil=>intro b _ h;exact h
   | cons v l ih=>
     intro b hl hb;rw[AD,Bf];refine ih _ (λ u hu=>hl u (Br _ hu)) ?_;unfold Ik;split
     . exact Acd hg sh (hl v List.mem_cons_self)
     . exact hb
 exact key (List.range g.length) [] (λ v hv=>List.mem_range.1 hv) (.inl rfl)
theorem Z5{nb:Nat}{l:List CX}(h:Dw nb l){s:CX}(hs:s∈l)(hd:s.Cy=true):1<=Db l:=by
 have hp:∀x∈l,1<=x.Ch:=λ x hx=>by
   obtain ⟨i,hi,rfl⟩:=AA.1 hx;obtain ⟨_,_,_,_,h5,_⟩:=h i hi;have e:l.getD i B8=l[i]:=getD_eq hi;rw[e] at h5;exact h5
 clear h
 induction l with
 | nil=>cases hs
 | cons y r ih=>
   have hr:0<=Db r:=by
     have JT:∀x∈r,1<=x.Ch:=λ x hx=>hp x (Br _ hx);clear ih hp hs
     induction r with
     | nil=>simp[Db]
     | cons z t JL=>
       have:=JL (λ x hx=>JT x (Br _ hx));have:=JT z List.mem_cons_self;simp only[Db];split<;>omega
   simp only[Db];rcases AE.1 hs with rfl | hs
   . rw[if_pos hd];have:=hp s List.mem_cons_self;omega
   . have:=ih hs (λ x hx=>hp x (Br _ hx));have:=hp y List.mem_cons_self;split<;>omega
theorem Zm{n:Nt}(hv:validN n):1<=(GX n).cap:=by
 have hg:=(DU hv).1;have h1:=w8 hg (Ht n);have hd:=hv.2.2.2.2.2.2.2;obtain ⟨s,hs⟩:=List.exists_mem_of_length_pos hd;rw[List.mem_filter] at hs;have h2:=Z5 hv.2.2.2.2.2.1 hs.1 hs.2;unfold GX;dsimp only;split<;>omega
def Nt.pd(n:Nt):List Pd:=[.sl (C0 n.blocks),.sl (Cw n.next),.sl (CY n.spurs),.sl (BT n.BW),.int .i64 n.cq,.int .i64 n.ca,.int .i64 n.cd,.int .i64 n.cp]
theorem dt{a:Prop}[Decidable a](h:a):decide a=true:=Ag h
theorem T9(l:List Int)(h:l.length<=10000000):HP l l=some true:=by
 have hl:=C3 (step:=FG l l) l.length (λ k=>(k:Int)) (Sum.inl ((l.length:Nat):Int))
   (λ k hk=>by
     rw[FG.eq_1,E8 hk,Ak,Cd l k 0 hk];simp only[Aa];simp only[decide_true,Ak,Aa,Bool.and_self,beq_self_eq_true,eq_self_iff_true,Bz];rw[Cs (by omega)])
   (by rw[FG.eq_1,FX,Aj])
 unfold HP;rw[dt rfl,Ak,show (0:Int)=((0:Nat):Int) from rfl,hl,Aa]
theorem filter_one{α:Type}(p:α->Bool)(x0:α):∀(l:List α) (j:Nat),j<l.length->p (l.getD j x0)=true->(∀k,k<l.length->k≠j->p (l.getD k x0)=false)->l.filter p=[l.getD j x0]
 | [],j,h,_,_=>by simp at h
 | x::r,0,_,h,hu=>by
   have hx:p x=true:=h;rw[List.filter_cons_of_pos hx];have:r.filter p=[]:=by
     rw[List.filter_eq_nil_iff];intro y hy;obtain ⟨k,hk,rfl⟩:=AA.1 hy;have:=hu (k+1) (by simp;omega) (by omega);rw[List.getD_cons_succ,Vn hk] at this;simp[this]
   rw[this];rfl
 | x::r,j+1,hj,h,hu=>by
   have hx:p x=false:=hu 0 (by simp) (by omega);rw[List.filter_cons_of_neg (by simp[hx])];exact filter_one p x0 r j (by simpa using hj) (by simpa using h) (λ k hk Dn=>by have:=hu (k+1) (by simpa using hk) (by omega);simpa using this)
theorem PX(nb:Nat)(l:List CX)(h:Dw nb l):∀(b a:Nat),a<=b->b<=l.length->Df (l.take a)<=Df (l.take b)
 | 0,a,ha,_=>by
   have:a=0:=by omega
   subst this;exact Int.le_refl _
 | b+1,a,ha,hb=>by
   rcases Nat.lt_or_ge b a with h1 | h1
   . have:a=b+1:=by omega
     subst this;exact Int.le_refl _
   . have h2:=PX nb l h b a h1 (by omega);have h3:=(h b (by omega)).2.2.2.2.1;rw[Cr l b B8 (by omega),D0];omega
theorem Aba{nb:Nat}{l:List CX}(h:Dw nb l){i:Nat}(hi:i<l.length){r:Int}(h1:Rv r (l.getD i B8)=true):(nb:Int)+Df (l.take i)<=r/\r<(nb:Int)+Df (l.take (i+1)):=by
 have h2:=(h i hi).2.2.2.2.2.2;rw[Cr l i B8 hi,D0];simp only[Rv,Ar,Ao] at h1;rw[h2] at h1;omega
theorem WG{nb:Nat}{l:List CX}(h:Dw nb l){i j:Nat}(hi:i<l.length)(hj:j<l.length){r:Int}(h1:Rv r (l.getD i B8)=true)(h2:Rv r (l.getD j B8)=true):i=j:=by
 have a:=Aba h hi h1;have b:=Aba h hj h2;rcases Nat.lt_trichotomy i j with c | c | c
 . have:=PX nb l h j (i+1) (by omega) (by omega);omega
 . exact c
 . have:=PX nb l h i (j+1) (by omega) (by omega);omega
theorem Sn{nb:Nat}{sp:List CX}(h:Dw nb sp){rb:List Int}(hr:GA sp rb){k:Nat}(hk:k<rb.length):
   ∃j,j<sp.length/\Rv (rb.getD k 0) (sp.getD j B8)=true/\(sp.getD j B8).Cy=true/\sp.filter (Rv (rb.getD k 0))=[sp.getD j B8]:=by
 have h1:=(hr k hk).1;rw[Bd] at h1;obtain ⟨s,hs,h2⟩:=h1;obtain ⟨j,hj,rfl⟩:=AA.1 hs;have e:sp.getD j B8=sp[j]:=Vn hj;simp only[Qi,Ar] at h2;have h3:Rv (rb.getD k 0) (sp.getD j B8)=true:=by rw[e];simp only[Rv,Ar];exact h2.2
 refine ⟨j,hj,h3,by rw[e];exact h2.1,filter_one _ _ _ j hj h3 λ i hi Dn=>?_⟩;cases c:Rv (rb.getD k 0) (sp.getD i B8)
 . rfl
 . exact (Dn (WG h hi hj c h3)).elim
theorem VT(w:Int)(ns:List (List UInt8))(nu:List Int)(L:List Dc)(h:L.length+1<10000000):CQ w ns nu (Ec 0 L)=some (Ec 0 (L++[⟨w,0,ns,nu⟩])):=by
 unfold CQ;rw[J7,Ag h,Ak,Yb,Cs (by omega)];simp[Ec]
theorem nd5(n:Nt)(h:n.blocks.length<=24):Ct (FQ n) ([],0)=some (Ec 0 (GS n),(n.blocks.length:Int)):=by
 have hl:=C3 (step:=FQ n) n.blocks.length (λ k=>(Ec 0 ((n.blocks.take k).map KA),(k:Int))) (Ec 0 (GS n),(n.blocks.length:Int))
   (λ k hk=>by
     rw[FQ.eq_1,E8 hk,Ak,Cd n.blocks k DB hk,Aa,VT _ _ _ _ (by simp;omega),Aa,Cs (by omega),Cr n.blocks k DB hk,Bb];rfl)
   (by rw[FQ.eq_1,FX,Aj];simp[GS])
 exact hl
theorem nd3(n:Nt)(acc:List Dc)(i:Nat)(row:List Int)(ha:acc.length<=1000)(hr4:row.length<=4)(CS:Iv n.blocks.length i row)(hi:i<n.blocks.length):
   Ct (FT n (i:Int) row) (Ec 0 acc,0)=some (Ec 0 (acc++row.map (KW n i)),(row.length:Int)):=by
 have hl:=C3 (step:=FT n (i:Int) row) row.length (λ k=>(Ec 0 (acc++(row.take k).map (KW n i)),(k:Int))) (Ec 0 (acc++row.map (KW n i)),(row.length:Int))
   (λ k hk=>by
     have hro:=CS k hk;obtain ⟨x,hx⟩:∃x:Nat,row.getD k 0=(x:Int):=⟨(row.getD k 0).toNat,by have:=hro.1;omega⟩;have hxb:x<n.blocks.length:=by have:=hro.2.1;omega
     rw[FT.eq_1,E8 hk,Ak,Cd row k 0 hk,Aa,Cd n.blocks i DB hi,Aa,hx,Cd n.blocks x DB hxb,Aa,VT _ _ _ _ (by simp;omega),Aa,Cs (by omega),Cr row k 0 hk,Bb,hx,A1];rfl)
   (by rw[FT.eq_1,FX,Aj];simp)
 simpa using hl
theorem QI(n:Nt)(hb:HS n)(i:Nat)(hi:i<=n.blocks.length):(Gx n i).length<=4*i:=by
 induction i with
 | zero=>simp[Gx]
 | succ i ih=>
   rw[Oh,At];have h1:=ih (by omega);have h2:=(hb.2.2.2 i (by omega)).2.1;simp only[Uh,A6];omega
theorem nd4(n:Nt)(hb:HS n):Ct (FR n) (Ec 0 (GS n),0)=some (Ec 0 (GS n++Gx n n.blocks.length),(n.next.length:Int)):=by
 have WS:=hb.2.1;have O8:=hb.2.2.1;have hl:=C3 (step:=FR n) n.next.length (λ k=>(Ec 0 (GS n++Gx n k),(k:Int))) (Ec 0 (GS n++Gx n n.blocks.length),(n.next.length:Int))
   (λ k hk=>by
     have I8:=QI n hb k (by omega);obtain ⟨_,h4,CS⟩:=hb.2.2.2 k (by omega);rw[FR.eq_1,E8 hk,Ak,Cd n.next k [] hk,Aa,nd3 n _ k _ (by simp[GS];omega) h4 CS (by omega),Aa,Cs (by omega),Oh,Uh,A1])
   (by rw[FR.eq_1,FX,Aj,O8])
 have h0:Gx n 0=[]:=rfl
 simpa [h0] using hl
theorem XT{nb:Nat}{l:List CX}(h:Dw nb l){k:Nat}(hk:k<l.length):∃x y:Nat,(l.getD k B8).Ip=(x:Int)/\x<nb/\(l.getD k B8).out=(y:Int)/\y<nb:=by
 obtain ⟨a,b,c,d,_⟩:=h k hk;exact ⟨(l.getD k B8).Ip.toNat,(l.getD k B8).out.toNat,by omega,by omega,by omega,by omega⟩
theorem nd2(n:Nt)(acc:List Dc)(ha:acc.length<=1000)(hs:n.spurs.length<=6)(Fs:Dw n.blocks.length n.spurs):Ct (FU n) (Ec 0 acc,0)=some (Ec 0 (acc++Jd n),(n.spurs.length:Int)):=by
 have hl:=C3 (step:=FU n) n.spurs.length (λ k=>(Ec 0 (acc++(n.spurs.take k).map (F8 n)),(k:Int))) (Ec 0 (acc++Jd n),(n.spurs.length:Int))
   (λ k hk=>by
     obtain ⟨x,y,hx,hxb,hy,hyb⟩:=XT Fs hk;rw[FU.eq_1,E8 hk,Ak,Cd n.spurs k B8 hk,Aa,hx,hy,Cd n.blocks x DB hxb,Aa,Cd n.blocks y DB hyb,Aa,Cr n.spurs k B8 hk,Bb];have hsd:F8 n (n.spurs.getD k B8)=⟨if (n.spurs.getD k B8).Cy then 4 else 3,0,[(n.spurs.getD k B8).name,(n.blocks.getD x DB).name,(n.blocks.getD y DB).name],[(n.spurs.getD k B8).Ch]⟩:=by
       simp only[F8,T0,hx,hy,Ab]
     simp only[AD,Bi,hsd];cases (n.spurs.getD k B8).Cy
     . rw[Aj,Aa,Aa,VT _ _ _ _ (by simp;omega),Aa,Cs (by omega),A1];rfl
     . rw[Ak,VT _ _ _ _ (by simp;omega),Aa,Cs (by omega),A1];rfl)
   (by rw[FU.eq_1,FX,Aj];simp[Jd])
 simpa using hl
theorem Abp(s:CX)(r:Int)(hb:0<=s.base/\s.base<=1000)(hs:0<=s.Ch/\s.Ch<=1000):D5 s r=some (Rv r s,r):=by
 unfold D5 Rv;rw[BY (by omega) (by omega)];cases decide (s.base<=r)<;>rfl
theorem R9{nb:Nat}{l:List CX}(h:Dw nb l)(hl:l.length<=6)(hn:nb<=24){k:Nat}(hk:k<l.length):(0<=(l.getD k B8).base/\(l.getD k B8).base<=100)/\1<=(l.getD k B8).Ch/\(l.getD k B8).Ch<=4:=by
 have:=h k hk;have h2:=IM nb l k (by omega) (λ j hj=>h j (by omega));obtain ⟨_,_,_,_,a,b,c⟩:=this;omega
theorem Asf(nb:Nat)(l:List CX)(h:Dw nb l)(hl:l.length<=6)(hn:nb<=24)(r:Int)(j:Nat)(hj:j<l.length)(h1:Rv r (l.getD j B8)=true):Ef l r=some ((j:Int),r):=by
 have S2:=C3 (step:=D3 l) j (λ k=>(r,(k:Int))) (Sum.inr ((j:Int),r))
   (λ k hk=>by
     have S3:k<l.length:=by omega
     obtain ⟨a,b⟩:=R9 h hl hn S3;have hf:Rv r (l.getD k B8)=false:=by
       cases c:Rv r (l.getD k B8)
       . rfl
       . have:=WG h S3 hj c h1;omega
     rw[D3.eq_1,E8 S3,Ak,Cd l k B8 S3,Aa,Abp _ _ (by simp only;omega) (by simp only;omega),Aa]
     show cond (Rv r (l.getD k B8)) _ _=_
     rw[hf,Aj,Cs (by omega)])
   (by
     obtain ⟨a,b⟩:=R9 h hl hn hj;rw[D3.eq_1,E8 hj,Ak,Cd l j B8 hj,Aa,Abp _ _ (by simp only;omega) (by simp only;omega),Aa]
     show cond (Rv r (l.getD j B8)) _ _=_
     rw[h1,Ak])
 unfold Ef;rw[show (r,(0:Int))=(r,((0:Nat):Int)) from rfl,S2];rfl
theorem QH(n:Nt)(Fs:Dw n.blocks.length n.spurs)(hr:GA n.spurs n.BW):∀k,k<=n.BW.length->(Hk n k).length=k:=by
 intro k
 induction k with
 | zero=>intro _;rfl
 | succ k ih=>
   intro hk;obtain ⟨j,_,_,_,hf⟩:=Sn Fs hr (show k<n.BW.length by omega);rw[Og n k (by omega),At,ih (by omega),Wd,Aw,hf];rfl
theorem nd1(n:Nt)(acc:List Dc)(ha:acc.length<=1000)(hb:n.blocks.length<=24)(hs:n.spurs.length<=6)(hrl:n.BW.length<=8)(Fs:Dw n.blocks.length n.spurs)(hr:GA n.spurs n.BW):
   Ct (FV n) (Ec 0 acc,0)=some (Ec 0 (acc++Hk n n.BW.length),(n.BW.length:Int)):=by
 have hl:=C3 (step:=FV n) n.BW.length (λ k=>(Ec 0 (acc++Hk n k),(k:Int))) (Ec 0 (acc++Hk n n.BW.length),(n.BW.length:Int))
   (λ k hk=>by
     obtain ⟨j,hj,h1,_,hf⟩:=Sn Fs hr hk;have h4:=QH n Fs hr k (by omega);obtain ⟨a,b⟩:=R9 Fs hs hb hj;rw[FV.eq_1,E8 hk,Ak,Cd n.BW k 0 hk,Aa,Asf _ _ Fs hs hb _ j hj h1,Aa];simp only;rw[Cd n.spurs j B8 hj,Aa,Og n k hk,Wd,Aw,hf];simp only[Rv,Ar,Ao] at h1;generalize n.BW.getD k 0=r at*;rw[BY (x:=r - (n.spurs.getD j B8).base) (by omega) (by omega),BY (by omega) (by omega),VT _ _ _ _ (by simp;omega),Aa,Cs (by omega),A1];rfl)
   (by rw[FV.eq_1,FX,Aj])
 have h0:Hk n 0=[]:=rfl
 simpa [h0] using hl
theorem Wp(n:Nt)(hs:JF n):Jv n=some (if validN n then (Dy n,0) else ([],20)):=by
 unfold Jv;rw[show (⟨n.blocks,n.next,n.spurs,n.BW,n.cq,n.ca,n.cd,n.cp⟩:Nt)=n from rfl,X9 n hs,Aa];by_cases hv:validN n
 . rw[Ag hv,Ak,if_pos hv];obtain ⟨hb,hs6,_,hr8,_,Fs,Vd,_⟩:=hv;have I8:=QI n hb n.blocks.length (Ai _);have h4:=QH n Fs Vd _ (Ai _);have WS:=hb.2.1;have e1:(GS n).length=n.blocks.length:=by simp[GS]
   have e3:(Jd n).length=n.spurs.length:=by simp[Jd]
   rw[nd5 n WS,Aa];simp only;rw[nd4 n hb,Aa];simp only;rw[nd2 n _ (by simp;omega) hs6 Fs,Aa];simp only;rw[nd1 n _ (by simp;omega) WS hs6 hr8 Fs Vd,Aa];simp only;rw[VT _ _ _ _ (by simp;omega),Aa];rfl
 . rw[Ah hv,Aj,if_neg hv]
theorem Agd(n:Nt)(hv:validN n):(Dy n).length<=200/\∀x∈Dy n,x.names.length<=10/\x.B2.length<=10:=by
 obtain ⟨hb,hs6,_,hr8,_,Fs,Vd,_⟩:=hv;have I8:=QI n hb n.blocks.length (Ai _);have h4:=QH n Fs Vd _ (Ai _);have WS:=hb.2.1;have e1:(GS n).length=n.blocks.length:=by simp[GS]
 have e3:(Jd n).length=n.spurs.length:=by simp[Jd]
 refine ⟨by rw[Dy,J7,Gy];simp;omega,?_⟩;have key:∀(L:List Dc) (i:Nat),(∀x∈L,x.names.length<=10/\x.B2.length<=10)->∀x∈Ec i L,x.names.length<=10/\x.B2.length<=10:=by
   intro L
   induction L with
   | nil=>intro i _ x hx;simp[Ec] at hx
   | cons y r ih=>
     intro i h x hx;simp only[Ec,AE] at hx;rcases hx with rfl | hx
     . exact h y (by simp)
     . exact ih _ (λ z hz=>h z (by simp[hz])) x hx
 refine key _ _ λ x hx=>?_;simp only[Gy,Au,Av] at hx;rcases hx with (((hx | hx) | hx) | hx) | rfl
 . obtain ⟨b,_,rfl⟩:=AN.1 hx;simp[KA]
 . obtain ⟨i,_,hx⟩:=Bl.1 hx;obtain ⟨b,_,rfl⟩:=AN.1 hx;simp[KW]
 . obtain ⟨b,_,rfl⟩:=AN.1 hx;simp[F8]
 . obtain ⟨i,_,hx⟩:=Bl.1 hx;obtain ⟨b,_,rfl⟩:=AN.1 hx;simp[LO]
 . simp
theorem Agc{n:Nt}(hv:validN n):smallD (Dy n):=by
 obtain ⟨h1,h2⟩:=Agd n hv;exact ⟨by omega,λ x hx=>by have:=h2 x hx;omega⟩
open Classical in
noncomputable def LN (n:Nt):Option Bool:=if JF n then some (decide (validN n)) else none
theorem UO(n:Nt)(h:JF n):LN n=some (decide (validN n)):=by unfold LN;rw[if_pos h]
theorem b9(n:Nt)(r:Bool)(h:LN n=some r):BV prog 46 [.agg [.p (.sl (C0 n.blocks)),.p (.sl (Cw n.next)),.p (.sl (CY n.spurs)),.p (.sl (BT n.BW)),.p (.int .i64 n.cq),.p (.int .i64 n.ca),.p (.int .i64 n.cd),.p (.int .i64 n.cp)]] [] λ h d=>h=[]/\d= .p (.bool r):=by
 by_cases hs:JF n
 . rw[UO n hs] at h;cases h;exact Ac3 n hs
 . unfold LN at h;rw[if_neg hs] at h;cases h
def Sh(n:Nt):List UInt8×Int:=if validN n then (Fy 1 ((Dy n).map NY),0) else ([],20)
theorem Aja(n:Nt)(hs:JF n):BV prog 22 [.agg n.cs] [(1000000,(.C8 1 JZ))] λ h r=>h=[(1000000,(.C8 1 JZ))]/\r= .De [.p (.str (Sh n).1),.p (.int .i64 (Sh n).2)]:=by
 have hd:=Uf n _ (Wp n hs);unfold Sh;refine BX func22 rfl Alp (by simp[Tryz.f22]) ?_;simp only[go_sem,Nt.cs];refine DY ((hd).C8 (id:=1000000) (by decide) rfl (by simp[C6,D.ids,DL]) (λ h1 r hr=>by rw[hr.1];rfl)) ?_;rintro h' r ⟨_,⟨rfl,rfl⟩,rfl⟩;by_cases hv:validN n
 . rw[if_pos hv,if_pos hv];have hds:=Y6 n hv;obtain ⟨I4,Mh,htl,Xx,Un⟩:=Ty n hv;have hf:=YJ (Dy n) [] I4;have Ew:=Td 2000000 (Dy n) [] hds.2 (by simp);rw[hf] at Ew;rw[Be] at hf Ew;simp only[go_sem];refine Cq ((Akb (Dy n) (by omega) (λ x hx=>by have:=hds.2 x hx;omega))) ?_;rw[hf];have hlm:((Dy n).map λ x=>(⟨x.line,ED x⟩:Ln))=(Dy n).map NY:=rfl;rw[hlm] at Ew ⊢;have hml:((Dy n).map NY).length=(Dy n).length:=by simp
   generalize (Dy n).map NY=ls at*;simp only[go_sem,Ax0];refine DY ((Ajc ls ⟨by omega,λ x hx=>⟨by have:=Un x hx;omega,by have:=Un x hx;omega⟩⟩).C8 (id:=1000000) (by decide) rfl (by simp[C6,D.ids,DL]) (λ h1 r hr=>by rw[hr.1];rfl)) ?_;rintro h' r ⟨_,⟨rfl,rfl⟩,rfl⟩;have hj:OZ ls=(Fy 1 ls,0):=by unfold OZ;rw[if_pos Mh,if_neg (by omega)]
   simp only[go_sem,Aqw,hj];refine BU ?_;simp only[go_sem]
 . rw[if_neg hv,if_neg hv];simp only[go_sem];refine BU ?_;simp only[go_sem]
def Cp.TY(b:Cp):List (List UInt8):=b.bl.map EH.name++b.sp.map CX.name
structure VI(b:Cp):Prop where
 xy:∀x∈b.bl,T2 x
 nm:∀x∈b.TY,CG x=true
 nod:b.TY.Nodup
 row:∀i,i<b.bl.length->(b.nx.getD i []).Nodup/\∀j∈b.nx.getD i [],0<=j/\j<(b.bl.length:Int)/\j≠(i:Int)
 io:∀s∈b.sp,0<=s.Ip/\s.Ip<(b.bl.length:Int)/\0<=s.out/\s.out<(b.bl.length:Int)
 pn:b.pl.Nodup
 pd:∀p∈b.pl,(b.sp.getD p.1.toNat B8).Cy=true/\p.2<=(b.sp.getD p.1.toNat B8).Ch
 cf:HJ b.cq b.ca b.cd b.cp
theorem UZ{b:Cp}(n:NI b){x:List UInt8}(h:¬b.Ic x=true):x∉b.TY:=by
 rw[OS n] at h;simp only[Cp.TY,Au];cases c1:LA (b.bl.map EH.name) x with
 | some i=>rw[c1] at h;exact absurd rfl h
 | none=>
   cases c2:LA (b.sp.map CX.name) x with
   | some i=>rw[c1,c2] at h;exact absurd rfl h
   | none=>exact λ h1=>h1.elim (G8.1 c1) (G8.1 c2)
theorem VI.block{b:Cp}(h:BI b)(n:NI b)(v:VI b)(d:Dc)(hn:CG (d.names.getD 0 [])=true)(hx:T2 ⟨d.names.getD 0 [],d.B2.getD 0 0,d.B2.getD 1 0⟩):VI (b.Em d).2:=by
 unfold Cp.Em;split
 . exact v
 . split
   . exact v
   . rename_i h1 h2;have Uo:=UZ n h1;have hP:∀(y:List UInt8),y∈(b.bl++[(⟨d.names.getD 0 [],d.B2.getD 0 0,d.B2.getD 1 0⟩:EH)]).map EH.name++b.sp.map CX.name↔y=d.names.getD 0 []∨y∈b.TY:=by
       intro y;simp only[Cp.TY,Bb,AD,Bi,Au,Av];constructor
       . rintro ((h | h) | h)<;>simp[h]
       . rintro (h | h | h)<;>simp[h]
     refine ⟨λ x H4=>?_,λ x H4=>?_,?_,λ i hi=>?_,λ s hs=>?_,v.pn,v.pd,v.cf⟩
     . rcases Au.1 H4 with H4 | H4
       . exact v.xy x H4
       . rw[Av.1 H4];exact hx
     . rcases (hP x).1 H4 with rfl | H4
       . exact hn
       . exact v.nm x H4
     . have hv:=v.nod;simp only[Cp.TY] at hv Uo ⊢;simp only[Bb,AD,Bi,A1,List.singleton_append];rw[Bn] at hv ⊢;obtain ⟨a1,a2,a3⟩:=hv;simp only[Au,not_or] at Uo;refine ⟨a1,List.nodup_cons.2 ⟨Uo.2,a2⟩,λ a ha c hc=>?_⟩;rcases AE.1 hc with rfl | hc
       . rintro rfl;exact Uo.1 ha
       . exact a3 a ha c hc
     . simp only[At,Aq,Az] at hi;by_cases hl:i<b.bl.length
       . have:(b.nx++[[]]).getD i []=b.nx.getD i []:=by simp only[List.getD];rw[AX (by rw[h.nn];exact hl)]
         rw[this];obtain ⟨r1,r2⟩:=v.row i hl;refine ⟨r1,λ j hj=>?_⟩;have:=r2 j hj;simp only[At,Aq,Az];omega
       . have:(b.nx++[[]]).getD i []=[]:=by
           obtain rfl:i=b.nx.length:=by rw[h.nn];omega
           simp[List.getD]
         rw[this];exact ⟨List.nodup_nil,λ j hj=>by simp at hj⟩
     . have:=v.io s hs;simp only[At,Aq,Az];omega
theorem VI.lane{b:Cp}(h:BI b)(v:VI b)(x y:List UInt8):VI (b.EL x y).2:=by
 unfold Cp.EL;split
 . rename_i i j h1 h2;split
   . exact v
   . split
     . exact v
     . split
       . exact v
       . rename_i h3 h4 h5;obtain ⟨p,rfl,hp⟩:=h.mb x i h1;obtain ⟨q,rfl,hq⟩:=h.mb y j h2;refine ⟨v.xy,v.nm,v.nod,λ k hk=>?_,v.io,v.pn,v.pd,v.cf⟩;simp only[Ab] at h4 ⊢;obtain ⟨r1,r2⟩:=v.row k hk;have hnn:=h.nn;by_cases e:p=k
         . subst e;have:(b.nx.set p (b.nx.getD p []++[(q:Int)])).getD p []=b.nx.getD p []++[(q:Int)]:=by
             simp[List.getD,show p<b.nx.length by omega]
           rw[this];refine ⟨?_,λ j hj=>?_⟩
           . rw[Bn];refine ⟨r1,by simp,λ a ha c hc=>?_⟩;rw[Av.1 hc];rintro rfl;exact h4 ha
           . rcases Au.1 hj with hj | hj
             . exact r2 j hj
             . rw[Av.1 hj];omega
         . have:(b.nx.set p (b.nx.getD p []++[(q:Int)])).getD k []=b.nx.getD k []:=by
             simp[List.getD,BN,e]
           rw[this];exact ⟨r1,r2⟩
 . exact v
theorem VI.Yi:∀{l:List (List UInt8)} {b:Cp},BI b->VI b->VI (b.DT l).2
 | [],b,h,v=>v
 | [x],b,h,v=>v
 | x::y::r,b,h,v=>by
   simp only[Cp.DT];split
   . exact VI.Yi (h.lane x y) (v.lane h x y)
   . exact v.lane h x y
theorem VI.Arv{b:Cp}(h:BI b)(n:NI b)(v:VI b)(d:Dc)(hn:CG (d.names.getD 0 [])=true):VI (b.Es d).2:=by
 unfold Cp.Es;split
 . exact v
 . rename_i h0;have Uo:=UZ n h0;split
   . rename_i i j g1 g2;split
     . exact v
     . split
       . exact v
       . split
         . exact v
         . rename_i h1 h2 h3;obtain ⟨p,rfl,hp⟩:=h.mb _ i g1;obtain ⟨q,rfl,hq⟩:=h.mb _ j g2;refine ⟨v.xy,λ x H4=>?_,?_,v.row,λ s hs=>?_,v.pn,λ p hp=>?_,v.cf⟩
           . simp only[Cp.TY,Bb,AD,Bi,Au,Av] at H4;rcases H4 with H4 | H4 | rfl
             . exact v.nm x (by simp only[Cp.TY,Au];exact .inl H4)
             . exact v.nm x (by simp only[Cp.TY,Au];exact .inr H4)
             . exact hn
           . have hv:=v.nod;simp only[Cp.TY] at hv Uo ⊢;simp only[Bb,AD,Bi,<-List.append_assoc];rw[Bn];refine ⟨hv,by simp,λ a ha c hc=>?_⟩;rw[Av.1 hc];rintro rfl;exact Uo ha
           . rcases Au.1 hs with hs | hs
             . exact v.io s hs
             . rw[Av.1 hs];simp only;omega
           . obtain ⟨⟨m,hm,hml⟩,_⟩:=h.pls p hp;have:=v.pd p hp;rw[hm] at this ⊢;simp only[Ab] at this ⊢;simp only[List.getD] at this ⊢;rw[AX hml];exact this
   . exact v
theorem VI.Ai7{b:Cp}(v:VI b)(d:Dc):VI (b.Dq d).2:=by
 unfold Cp.Dq;split
 . exact v
 . rename_i i hi;split
   . exact v
   split
   . exact v
   split
   . exact v
   split
   . exact v
   split
   . exact v
   rename_i h1 h2 h3 h4 h5;refine ⟨v.xy,v.nm,v.nod,v.row,v.io,?_,λ p hp=>?_,v.cf⟩
   . simp only;rw[Bn];refine ⟨v.pn,by simp,λ a ha c hc=>?_⟩;rw[Av.1 hc];rintro rfl;exact h4 ha
   . rcases Au.1 hp with hp | hp
     . exact v.pd p hp
     . rw[Av.1 hp];simp only[Ao] at h3 ⊢;exact ⟨by simpa using h1,by omega⟩
theorem VI.config{b:Cp}(v:VI b)(d:Dc):VI (b.Dz d).2:=by
 unfold Cp.Dz;split
 . exact v
 . split
   . exact v
   . rename_i h1 h2;refine ⟨v.xy,v.nm,v.nod,v.row,v.io,v.pn,v.pd,?_⟩;rw[Aa4] at h2
     simpa using h2
theorem XI{d:Dc}(h:CP d=true):(∀x∈d.names,CG x=true)/\∀x∈d.B2,-9999<=x/\x<=9999:=by
 simp only[CP,Ar,AB] at h;obtain ⟨_,_,_,h4,h5⟩:=h;refine ⟨h4,λ x hx=>?_⟩;have:=h5 x hx;simp only[Bool.not_eq_true',Bool.or_eq_false_iff,decide_eq_false_iff_not] at this;omega
theorem VI.add{b:Cp}(h:BI b)(n:NI b)(v:VI b)(d:Dc):VI (b.DC d).2:=by
 unfold Cp.DC;split
 . exact v
 rename_i hv;have hv:CP d=true:=by simpa using hv
 obtain ⟨⟨Qk,Xv⟩,hnu,hna⟩:=LF hv;obtain ⟨N2,Un⟩:=XI hv;have nm0:1<=d.names.length->CG (d.names.getD 0 [])=true:=λ h=>N2 _ (CJ d.names 0 [] (by omega));have nu0:∀i,i<d.B2.length->-9999<=d.B2.getD i 0/\d.B2.getD i 0<=9999:=λ i h=>Un _ (CJ d.B2 i 0 h);split
 . rename_i c;simp only[Ao] at c;simp only[CA,c,AL] at hnu hna;have a:=nu0 0 (by omega);have c:=nu0 1 (by omega);exact v.block h n d (nm0 (by omega)) ⟨a.1,a.2,c.1,c.2⟩
 split
 . exact v.Yi h
 split
 . exact v.Ai7 d
 split
 . exact v.config d
 rename_i c1 c2 c3 c4;simp only[Ao] at c1 c2 c3 c4;have:d.word=3∨d.word=4:=by omega
 simp only[CA,c1,c2,this,AL,A7] at hnu hna;exact v.Arv h n d (nm0 (by omega))
theorem NI.add{b:Cp}(h:BI b)(n:NI b)(d:Dc)(hd:d.names.length<=10000000/\d.B2.length<=10000000)(h0:(b.DC d).1=0):NI (b.DC d).2:=by
 obtain ⟨_,_,h2⟩:=As4 h n d hd;exact (h2 h0).2
theorem VI.init:VI Cp.init:=by
 refine ⟨by simp[Cp.init],by simp[Cp.init,Cp.TY],by simp[Cp.init,Cp.TY],by simp[Cp.init],by simp[Cp.init],by simp[Cp.init],by simp[Cp.init],?_⟩
 show HJ 4 2 1 8
 unfold HJ;omega
theorem Anx(n:Int)(sp:List CX)(ba:List Int)(h:ba.length=sp.length)(i:Nat)(hi:i<sp.length):(ME n sp ba).getD i B8={sp.getD i B8 with base:=n+ba.getD i 0}:=by
 have h1:i<(ME n sp ba).length:=by rw[OF _ _ _ h];exact hi
 have h2:i<ba.length:=by omega
 rw[Vn h1,Vn hi,Vn h2];simp[ME]
theorem FZ:∀(l1 l2:List Dc) (b b':Cp),Eu b l1=(none,b')->Eu b (l1++l2)=Eu b' l2
 | [],l2,b,b',h=>by simp only[Eu,Prod.mk.injEq,true_and] at h;subst h;rfl
 | d::r,l2,b,b',h=>by
   simp only[AR,Eu] at h ⊢;split at h
   . rename_i h0;rw[if_pos h0];exact FZ r l2 _ b' h
   . simp at h
theorem KB{b b':Cp}{d:Dc}(h:b.DC d=(0,b')):Eu b [d]=(none,b'):=by simp only[Eu,h,AL]
theorem VS:∀(l:List Dc) (i:Nat) (b b':Cp),Eu b l=(none,b')->Eu b (Ec i l)=(none,b')
 | [],i,b,b',h=>h
 | d::r,i,b,b',h=>by
   have e:b.DC ⟨d.word,(i:Int)+1,d.names,d.B2⟩=b.DC d:=rfl;simp only[Ec,Eu,e] at h ⊢;split at h
   . rename_i h0;rw[if_pos h0];exact VS r (i+1) _ b' h
   . simp at h
theorem JA:∀(l:List Dc) (b b':Cp),(∀x∈l,x.names.length<=10/\x.B2.length<=10)->BI b->NI b->Eu b l=(none,b')->BI b'/\NI b'
 | [],b,b',_,h,n,he=>by simp only[Eu,Prod.mk.injEq,true_and] at he;subst he;exact ⟨h,n⟩
 | d::r,b,b',hs,h,n,he=>by
   simp only[Eu] at he;split at he
   . rename_i h0;exact JA r _ b' (λ x hx=>hs x (Br _ hx)) (h.add d) (n.add h d (by have:=hs d (by simp);omega) h0) he
   . simp at he
theorem U2{b:Cp}(n:NI b){x:List UInt8}(h1:x∉b.bl.map EH.name)(h2:x∉b.sp.map CX.name):b.Ic x=false:=by
 rw[OS n,G8.2 h1,G8.2 h2];rfl
theorem U8{l:List (List UInt8)}(h:l.Nodup)(i:Nat)(hi:i<l.length):LA l (l.getD i [])=some i:=by
 cases c:LA l (l.getD i []) with
 | none=>exact absurd (CJ l i [] hi) (G8.1 c)
 | some j=>
   obtain ⟨hj,he⟩:=O1 c;rcases Nat.lt_trichotomy i j with h1 | h1 | h1
   . exact absurd he.symm (λ e=>(IZ l).1 h j hj i h1 e.symm)
   . rw[h1]
   . exact absurd he.symm ((IZ l).1 h i hi j h1)
theorem Ac2{x:EH}(hn:CG x.name=true)(hx:T2 x):CP (KA x)=true:=by
 unfold T2 at hx;simp[CP,KA,CA,hn];omega
theorem Aq7{b:Cp}(n:NI b)(x:EH)(hn:CG x.name=true)(hx:T2 x)(h1:x.name∉b.bl.map EH.name)(h2:x.name∉b.sp.map CX.name)(hl:b.bl.length<24):
   b.DC (KA x)=(0,{b with mb:=HC b.mb x.name b.bl.length,bl:=b.bl++[x],nx:=b.nx++[[]]}):=by
 unfold Cp.DC;rw[Ac2 hn hx,if_neg (by decide)]
 show (if decide ((1:Int)=1)=true then b.Em (KA x) else _)=_
 rw[if_pos (by decide)];unfold Cp.Em
 show (if b.Ic x.name=true then _ else _)=_
 rw[U2 n h1 h2,if_neg (by decide),if_neg (by omega)];rfl
theorem Ac1{n:Nt}{i:Nat}{x:Int}(h1:CG (n.blocks.getD i DB).name=true)(h2:CG (T0 n x)=true):CP (KW n i x)=true:=by
 unfold KW;generalize (n.blocks.getD i DB).name=a at*;generalize T0 n x=c at*;simp[CP,CA,h1,h2]
theorem Aq5{b:Cp}{n:Nt}{i:Nat}{j:Nat}(h1:CG (n.blocks.getD i DB).name=true)(h2:CG (T0 n j)=true)(g1:DJ b.mb (n.blocks.getD i DB).name=some (i:Int))(g2:DJ b.mb (T0 n j)=some (j:Int))
   (hij:i≠j) (hm:(j:Int)∉b.nx.getD i []) (hl:(b.nx.getD i []).length<4):
   b.DC (KW n i j)=(0,{b with nx:=b.nx.set i (b.nx.getD i []++[(j:Int)])}):=by
 have hL:b.EL (n.blocks.getD i DB).name (T0 n j)=(0,{b with nx:=b.nx.set i (b.nx.getD i []++[(j:Int)])}):=by
   unfold Cp.EL;rw[g1,g2];simp only;rw[if_neg (by omega),if_neg (by simpa using hm),if_neg (by simp only[Ab];omega)];simp
 unfold Cp.DC;rw[Ac1 h1 h2,if_neg (by decide)]
 show (if decide ((2:Int)=1)=true then _ else if decide ((2:Int)=2)=true then b.DT [(n.blocks.getD i DB).name,T0 n j] else _)=_
 rw[if_neg (by decide),if_pos (by decide)];simp only[Cp.DT,hL,AL]
def Nx(s:CX):CX:={s with base:=0}
theorem Aq2{b:Cp}(nI:NI b){n:Nt}{s:CX}{i j:Nat}(h1:CG s.name=true)(h2:CG (T0 n s.Ip)=true)(h3:CG (T0 n s.out)=true)(hi:s.Ip=(i:Int))(hj:s.out=(j:Int))
   (g1:DJ b.mb (T0 n s.Ip)=some (i:Int)) (g2:DJ b.mb (T0 n s.out)=some (j:Int)) (n1:s.name∉b.bl.map EH.name) (n2:s.name∉b.sp.map CX.name) (hs:1<=s.Ch/\s.Ch<=4) (hl:b.sp.length<6):
   b.DC (F8 n s)=(0,{b with ms:=HC b.ms s.name b.sp.length,sp:=b.sp++[Nx s],ba:=b.ba++[b.sl],sl:=b.sl+s.Ch}):=by
 have hv:CP (F8 n s)=true:=by
   cases hd:s.Cy
   . simp[CP,F8,CA,h1,h2,h3,hd];omega
   . simp[CP,F8,CA,h1,h2,h3,hd];omega
 have hw:(F8 n s).word=3∨(F8 n s).word=4:=by
   cases hd:s.Cy
   . simp[F8,hd]
   . simp[F8,hd]
 have hw4:decide ((F8 n s).word=4)=s.Cy:=by
   cases hd:s.Cy
   . simp[F8,hd]
   . simp[F8,hd]
 unfold Cp.DC;rw[hv,if_neg (by decide),if_neg (by simp only[Ao];omega),if_neg (by simp only[Ao];omega),if_neg (by simp only[Ao];omega),if_neg (by simp only[Ao];omega)];unfold Cp.Es;rw[show (F8 n s).names.getD 0 []=s.name from rfl,show (F8 n s).names.getD 1 []=T0 n s.Ip from rfl,show (F8 n s).names.getD 2 []=T0 n s.out from rfl,show (F8 n s).B2.getD 0 0=s.Ch from rfl,
   U2 nI n1 n2,if_neg (by decide),g1,g2,hw4]
 simp only;rw[if_neg (by simp only[Ao];omega),if_neg (by simp only[Ao];omega),if_neg (by omega),<-hi,<-hj];rfl
theorem Aq4{b:Cp}{r:Int}{s:CX}{j:Nat}(h1:CG s.name=true)(g1:DJ b.ms s.name=some (j:Int))(hd:(b.sp.getD j B8).Cy=true)(hs:(b.sp.getD j B8).Ch=s.Ch)
   (hr:Rv r s=true) (hs4:s.Ch<=4) (hm:((j:Int),r - s.base+1)∉b.pl) (hl:b.pl.length<8):b.DC (LO r s)=(0,{b with pl:=b.pl++[((j:Int),r - s.base+1)]}):=by
 simp only[Rv,Ar,Ao] at hr;have hv:CP (LO r s)=true:=by simp[CP,LO,CA,h1];omega
 unfold Cp.DC;rw[hv,if_neg (by decide)]
 show (if decide ((5:Int)=1)=true then _ else if decide ((5:Int)=2)=true then _ else if decide ((5:Int)=5)=true then b.Dq (LO r s) else _)=_
 rw[if_neg (by decide),if_neg (by decide),if_pos (by decide)];unfold Cp.Dq;rw[show (LO r s).names.getD 0 []=s.name from rfl,show (LO r s).B2.getD 0 0=r - s.base+1 from rfl,g1];simp only[Ab];rw[if_neg (by rw[hd];decide),if_neg (by simp only[Ao];omega),if_neg (by simp only[Ao];omega),if_neg hm,if_neg (by omega)]
theorem Aq6{b:Cp}{q a d p:Int}(hc:HJ q a d p)(hf:b.cf=false):b.DC ⟨6,0,[],[q,a,d,p]⟩=(0,{b with cq:=q,ca:=a,cd:=d,cp:=p,cf:=true}):=by
 have Xy:=hc;unfold HJ at Xy;have hv:CP ⟨6,0,[],[q,a,d,p]⟩=true:=by simp[CP,CA];omega
 unfold Cp.DC;rw[hv,if_neg (by decide)]
 show (if decide ((6:Int)=1)=true then _ else if decide ((6:Int)=2)=true then _ else if decide ((6:Int)=5)=true then _ else if decide ((6:Int)=6)=true then b.Dz ⟨6,0,[],[q,a,d,p]⟩ else _)=_
 rw[if_neg (by decide),if_neg (by decide),if_neg (by decide),if_pos (by decide)];unfold Cp.Dz;rw[if_neg (by simp[hf])]
 show (if Ux q a d p=false then _ else _)=_
 rw[Aa4,Ag hc,if_neg (by decide)];rfl
theorem P9{n:Nt}(h:E7 n):(C2 n).Nodup:=(IZ _).2 λ i hi k hk=>(h i hi).2 k hk
theorem OR{n:Nt}(h:E7 n)(i:Nat)(hi:i<n.blocks.length):CG (n.blocks.getD i DB).name=true:=by
 have:=(h i (by simp[C2];omega)).1;rwa[NU i (by simp[C2];omega),if_pos hi] at this
theorem Ab3{n:Nt}(h:E7 n)(i:Nat)(hi:i<n.spurs.length):CG (n.spurs.getD i B8).name=true:=by
 have:=(h (n.blocks.length+i) (by simp[C2];omega)).1;rwa[NU _ (by simp[C2];omega),if_neg (by omega),show n.blocks.length+i - n.blocks.length=i by omega] at this
theorem Ab2{n:Nt}(h:E7 n):(n.blocks.map EH.name).Nodup:=(Bn.1 (P9 h)).1
theorem Ab1{n:Nt}(h:E7 n):(n.spurs.map CX.name).Nodup:=(Bn.1 (P9 h)).2.1
theorem Av2{n:Nt}(h:E7 n){a:List UInt8}(h1:a∈n.blocks.map EH.name)(h2:a∈n.spurs.map CX.name):False:=(Bn.1 (P9 h)).2.2 a h1 a h2 rfl
theorem Yc{l:List (List UInt8)}(h:l.Nodup)(k:Nat)(hk:k<l.length):l.getD k []∉l.take k:=by
 intro hm;obtain ⟨i,hi,he⟩:=AA.1 hm;rw[List.getElem_take] at he;have hik:i<k:=by simp at hi;omega
 refine (IZ l).1 h k hk i hik ?_;rw[Vn (show i<l.length by omega),he]
theorem An0{n:Nt}(hv:validN n):∀k,k<=n.blocks.length->∃b,Eu Cp.init ((n.blocks.take k).map KA)=(none,b)/\BI b/\NI b/\b.bl=n.blocks.take k/\b.nx=List.replicate k []/\b.sp=[]/\b.ba=[]/\b.pl=[]/\b.cf=false:=by
 obtain ⟨hb,hs6,N2,hr8,hcf,Fs,Vd,_⟩:=hv;intro k
 induction k with
 | zero=>intro _;exact ⟨Cp.init,rfl,BI.init,NI.init,rfl,rfl,rfl,rfl,rfl,rfl⟩
 | succ k ih=>
   intro hk;obtain ⟨b,h1,h2,h3,h4,h5,h6,h7,h8,h9⟩:=ih (by omega);have hx:=(hb.2.2.2 k (by omega)).1;have hlen:b.bl.length=k:=by rw[h4];simp;omega
   have II:=Aq7 (x:=n.blocks.getD k DB) h3 (OR N2 k (by omega)) hx
     (by
       rw[h4,Bu];have:=Yc (Ab2 N2) k (by simp;omega);rwa[getD_map' EH.name n.blocks k DB [] (by omega)] at this)
     (by rw[h6];simp) (by have:=hb.2.1;omega)
   have Jq:=(FZ _ _ _ _ h1).trans (KB II);have e:(n.blocks.take (k+1)).map KA=(n.blocks.take k).map KA++[KA (n.blocks.getD k DB)]:=by rw[Cr n.blocks k DB (by omega),Bb];rfl
   rw[<-e] at Jq;have hBN:=JA _ _ _ (λ x hx=>by obtain ⟨y,_,rfl⟩:=AN.1 hx;simp[KA]) BI.init NI.init Jq;refine ⟨_,Jq,hBN.1,hBN.2,?_,?_,h6,h7,h8,h9⟩
   . simp only;rw[h4,Cr n.blocks k DB (by omega)]
   . simp only;rw[h5,List.replicate_succ']
theorem Av1(p:List (List Int))(x:List Int)(q:List (List Int))(i:Nat)(h:i=p.length):(p++x::q).getD i []=x:=by subst h;simp[List.getD]
theorem WY{n:Nt}(N2:E7 n){b:Cp}(h3:NI b)(Xz:b.bl=n.blocks)(i:Nat)(hi:i<n.blocks.length):DJ b.mb (n.blocks.getD i DB).name=some (i:Int):=by
 rw[h3.mb,Xz];have:=U8 (Ab2 N2) i (by simpa using hi);rw[getD_map' EH.name n.blocks i DB [] hi] at this;rw[this];rfl
theorem Aau{nb i:Nat}{l:List Int}(h:Iv nb i l):∀{k t:Nat},t<k->k<l.length->l.getD t 0<l.getD k 0:=by
 intro k
 induction k with
 | zero=>intro t h;omega
 | succ k ih=>
   intro t ht hk;have h1:=(h (k+1) hk).2.2.2 (by omega);rw[show k+1 - 1=k by omega] at h1;by_cases e:t=k
   . rw[e];exact h1
   . have:=ih (t:=t) (by omega) (by omega);omega
theorem Aq3{n:Nt}(hv:validN n)(i:Nat)(hi:i<n.blocks.length)(q:List (List Int)):∀(k:Nat) (b:Cp),BI b->NI b->b.bl=n.blocks->k<=(n.next.getD i []).length->b.nx=n.next.take i++(n.next.getD i []).take k::q->
   Eu b (((n.next.getD i []).drop k).map (KW n i))=(none,{b with nx:=n.next.take i++n.next.getD i []::q}):=by
 obtain ⟨hb,hs6,N2,hr8,hcf,Fs,Vd,_⟩:=hv;have O8:=hb.2.2.1;obtain ⟨_,hl4,CS⟩:=hb.2.2.2 i hi;have hrs:=CS;generalize hR:n.next.getD i []=R at*
 have hti:(n.next.take i).length=i:=by simp;omega
 intro k;generalize hm:R.length - k=m
 induction m generalizing k with
 | zero=>
   intro b h2 h3 Xz hk Xw;have:k=R.length:=by omega
   subst this;rw[Bv,Bi,Aw] at*;simp only[Eu];rw[<-Xw]
 | succ m ih=>
   intro b h2 h3 Xz hk Xw;have S3:k<R.length:=by omega
   obtain ⟨a1,a2,a3,a4⟩:=CS k S3;rw[AT S3,AD];obtain ⟨j,hj⟩:∃j:Nat,R.getD k 0=(j:Int):=⟨(R.getD k 0).toNat,by omega⟩;have hj2:R[k]=(j:Int):=by rw[<-Vn S3];exact hj
   have hjb:j<n.blocks.length:=by omega
   have hx:b.nx.getD i []=R.take k:=by rw[Xw];exact Av1 _ _ _ i hti.symm
   have II:=Aq5 (b:=b) (n:=n) (i:=i) (j:=j) (OR N2 i hi) (by unfold T0;rw[Ab];exact OR N2 j hjb) (WY N2 h3 Xz i hi) (by unfold T0;rw[Ab];exact WY N2 h3 Xz j hjb)
     (by omega) (by
       rw[hx];intro Ft;obtain ⟨t,ht,he⟩:=AA.1 Ft;rw[List.getElem_take] at he;have ZK:t<k:=by simp at ht;omega
       have:=Aau CS ZK S3;rw[Vn (show t<R.length by omega),Vn S3] at this;omega)
     (by rw[hx,Bm];omega)
   rw[hj2];simp only[Eu,II,AL];have E9:b.nx.set i (b.nx.getD i []++[(j:Int)])=n.next.take i++R.take (k+1)::q:=by
     rw[hx,Xw];have:=V9 (n.next.take i) q (R.take k) (R.take k++[(j:Int)]);rw[hti] at this;rw[this,Cr R k 0 S3,hj]
   rw[E9];have hBN:=JA [KW n i j] b _ (λ x hx=>by rw[Av.1 hx];simp[KW]) h2 h3 (KB II);rw[E9] at hBN;exact ih (k+1) (by omega) {b with nx:=n.next.take i++R.take (k+1)::q} hBN.1 hBN.2 Xz (by omega) rfl
theorem Yj(n:Nt)(i:Nat):∀x∈Uh n i,x.names.length<=10/\x.B2.length<=10:=by
 intro x hx;obtain ⟨y,_,rfl⟩:=AN.1 hx;simp[KW]
theorem Amz{n:Nt}(hv:validN n){b:Cp}(h2:BI b)(h3:NI b)(Xz:b.bl=n.blocks)(Xw:b.nx=List.replicate n.blocks.length []):∀i,i<=n.blocks.length->
   Eu b (Gx n i)=(none,{b with nx:=n.next.take i++List.replicate (n.blocks.length - i) []}):=by
 have O8:=hv.1.2.2.1;intro i
 induction i with
 | zero=>intro _;simp only[Gx,List.range_zero,List.flatMap_nil,Eu,List.take_zero,Be,Nat.sub_zero,<-Xw]
 | succ i ih=>
   intro hi;have h1:=ih (by omega);have hsm:∀x∈Gx n i,x.names.length<=10/\x.B2.length<=10:=by
     intro x hx;obtain ⟨y,_,hy⟩:=Bl.1 hx;exact Yj n y x hy
   obtain ⟨hB,hN⟩:=JA _ _ _ hsm h2 h3 h1;rw[Oh,FZ _ _ _ _ h1];have Ae8:List.replicate (n.blocks.length - i) ([]:List Int)=[]::List.replicate (n.blocks.length - (i+1)) []:=by
     rw[show n.blocks.length - i=(n.blocks.length - (i+1))+1 by omega,List.replicate_succ]
   rw[Ae8] at hB hN ⊢;have:=Aq3 hv i (by omega) (List.replicate (n.blocks.length - (i+1)) []) 0 _ hB hN Xz (AG _) (by simp);rw[List.drop_zero] at this;rw[Uh,this,Cr n.next i [] (by omega),A1];rfl
theorem Ah1{n:Nt}(hv:validN n){b0:Cp}(hB0:BI b0)(hN0:NI b0)(Xz:b0.bl=n.blocks)(Ap3:b0.sp=[]):∀k,k<=n.spurs.length->
   ∃b,Eu b0 ((n.spurs.take k).map (F8 n))=(none,b)/\BI b/\NI b/\b.bl=b0.bl/\b.nx=b0.nx/\b.sp=(n.spurs.take k).map Nx/\b.pl=b0.pl/\b.cf=b0.cf:=by
 obtain ⟨hb,hs6,N2,hr8,hcf,Fs,Vd,_⟩:=hv;intro k
 induction k with
 | zero=>intro _;exact ⟨b0,rfl,hB0,hN0,rfl,rfl,by simpa using Ap3,rfl,rfl⟩
 | succ k ih=>
   intro hk;obtain ⟨b,h1,h2,h3,h4,h5,h6,h7,h8⟩:=ih (by omega);obtain ⟨x,y,hx,hxb,hy,hyb⟩:=XT Fs (show k<n.spurs.length by omega);obtain ⟨_,_,_,_,s1,s2,_⟩:=Fs k (by omega);have hbn:∀z:Nat,T0 n (z:Int)=(n.blocks.getD z DB).name:=λ z=>by unfold T0;rw[Ab]
   have Azi:(n.spurs.getD k B8).name∉b.sp.map CX.name:=by
     have e:b.sp.map CX.name=(n.spurs.map CX.name).take k:=by
       rw[h6,List.map_map,Bu];rfl
     rw[e];have:=Yc (Ab1 N2) k (by simp;omega);rwa[getD_map' CX.name n.spurs k B8 [] (by omega)] at this
   have Azl:(n.spurs.getD k B8).name∉b.bl.map EH.name:=λ hm=>by
     rw[h4,Xz] at hm;exact Av2 N2 hm (AN.2 ⟨_,CJ n.spurs k B8 (by omega),rfl⟩)
   have II:=Aq2 (b:=b) h3 (n:=n) (s:=n.spurs.getD k B8) (i:=x) (j:=y) (Ab3 N2 k (by omega)) (by rw[hx,hbn];exact OR N2 x hxb) (by rw[hy,hbn];exact OR N2 y hyb) hx hy
     (by rw[hx,hbn];exact WY N2 h3 (h4.trans Xz) x hxb) (by rw[hy,hbn];exact WY N2 h3 (h4.trans Xz) y hyb) Azl Azi ⟨s1,s2⟩ (by rw[h6];simp;omega)
   have Jq:=(FZ _ _ _ _ h1).trans (KB II);have e:(n.spurs.take (k+1)).map (F8 n)=(n.spurs.take k).map (F8 n)++[F8 n (n.spurs.getD k B8)]:=by rw[Cr n.spurs k B8 (by omega),Bb];rfl
   rw[<-e] at Jq;have hBN:=JA _ _ _ (λ x hx=>by obtain ⟨y,_,rfl⟩:=AN.1 hx;simp[F8]) hB0 hN0 Jq;refine ⟨_,Jq,hBN.1,hBN.2,h4,h5,?_,h7,h8⟩;simp only;rw[h6,Cr n.spurs k B8 (by omega),Bb];rfl
def j9(sp:List CX)(r:Int):Int×Int:=match sp.findIdx? (Rv r) with
 | some j=>((j:Int),r - (sp.getD j B8).base+1)
 | none=>(0,0)
theorem Wh{nb:Nat}{sp:List CX}(Fs:Dw nb sp){rb:List Int}(hr:GA sp rb){k:Nat}(hk:k<rb.length):
   ∃j,j<sp.length/\Rv (rb.getD k 0) (sp.getD j B8)=true/\(sp.getD j B8).Cy=true/\sp.filter (Rv (rb.getD k 0))=[sp.getD j B8]/\j9 sp (rb.getD k 0)=((j:Int),rb.getD k 0 - (sp.getD j B8).base+1):=by
 obtain ⟨j,hj,h1,h2,h3⟩:=Sn Fs hr hk;refine ⟨j,hj,h1,h2,h3,?_⟩;unfold j9;cases c:sp.findIdx? (Rv (rb.getD k 0)) with
 | none=>
   rw[List.findIdx?_eq_none_iff] at c;have:=c _ (CJ sp j B8 hj);rw[h1] at this;cases this
 | some i=>
   obtain ⟨hi,EG,_⟩:=List.findIdx?_eq_some_iff_getElem.1 c;have:=WG Fs hi hj (by rw[Vn hi];exact EG) h1;rw[this]
theorem Atd{n:Nt}(N2:E7 n){b:Cp}(h3:NI b)(Fs:b.sp=n.spurs.map Nx)(i:Nat)(hi:i<n.spurs.length):DJ b.ms (n.spurs.getD i B8).name=some (i:Int):=by
 have e:b.sp.map CX.name=n.spurs.map CX.name:=by rw[Fs,List.map_map];rfl
 rw[h3.ms,e];have:=U8 (Ab1 N2) i (by simpa using hi);rw[getD_map' CX.name n.spurs i B8 [] hi] at this;rw[this];rfl
theorem Amy{n:Nt}(hv:validN n){b:Cp}(hB0:BI b)(hN0:NI b)(Ap3:b.sp=n.spurs.map Nx)(hpl:b.pl=[]):∀k,k<=n.BW.length->
   Eu b (Hk n k)=(none,{b with pl:=(n.BW.take k).map (j9 n.spurs)}):=by
 obtain ⟨hb,hs6,N2,hr8,hcf,Fs,Vd,_⟩:=hv;intro k
 induction k with
 | zero=>intro _;simp only[Hk,List.take_zero,List.flatMap_nil,Eu,Bi,<-hpl]
 | succ k ih=>
   intro hk;have h1:=ih (by omega);obtain ⟨j,hj,i1,i2,i3,i4⟩:=Wh Fs Vd (show k<n.BW.length by omega);obtain ⟨_,_,_,_,s1,s2,_⟩:=Fs j hj;have hg:b.sp.getD j B8=Nx (n.spurs.getD j B8):=by rw[Ap3];exact getD_map' Nx n.spurs j B8 B8 hj
   have II:=Aq4 (b:={b with pl:=(n.BW.take k).map (j9 n.spurs)}) (r:=n.BW.getD k 0) (s:=n.spurs.getD j B8) (j:=j) (Ab3 N2 j hj) (Atd N2 hN0 Ap3 j hj) (by simp only;rw[hg];exact i2) (by simp only;rw[hg];rfl) i1 s2
     (by
       simp only;intro Ft;obtain ⟨r,hr,he⟩:=AN.1 Ft;obtain ⟨t,ht,rfl⟩:=AA.1 hr;rw[List.getElem_take] at he hr;have ZK:t<k:=by simp at ht;omega
       obtain ⟨j2,hj2,l1,l2,l3,l4⟩:=Wh Fs Vd (show t<n.BW.length by omega);rw[Vn (show t<n.BW.length by omega)] at l4 l1;rw[l4,Prod.mk.injEq] at he;have:j2=j:=by omega
       subst this;have Asx:=(Vd k (by omega)).2;apply Asx;have:n.BW.getD k 0=n.BW[t]:=by omega
       rw[this];exact hr)
     (by simp only[A6,Bm];omega)
   rw[Og n k (by omega),FZ _ _ _ _ h1,Wd,Aw,i3]
   show Eu _ [LO _ _]=_
   rw[KB II];simp only;rw[Cr n.BW k 0 (by omega),Bb];simp only[AD,Bi,i4]
theorem XV:∀(l p:List Int),(p++l).Pairwise (· <= ·)->l.foldl FD p=p++l
 | [],p,_=>by simp
 | x::r,p,h=>by
   have hx:FD p x=p++[x]:=by
     rcases List.eq_nil_or_concat p with rfl | ⟨q,y,rfl⟩
     . rfl
     . rw[List.concat_eq_append] at h ⊢;have h2:(q++[y]).Pairwise (· <= ·):=(Bp.1 h).1;have h3:y<=x:=(Bp.1 h).2.2 y (by simp) x (by simp);rw[O3 q y x h2 (by omega)];simp
   simp only[Bf];rw[hx,XV r (p++[x]) (by rw[A1];exact h),A1];rfl
theorem Arz{nb i:Nat}{l:List Int}(h:Iv nb i l):DN l=l:=by
 have:l.Pairwise (· <= ·):=by
   rw[List.pairwise_iff_getElem];intro t k ht hk ZK;have:=Aau h ZK hk;rw[Vn ht,Vn hk] at this;omega
 simpa [DN] using XV l [] (by simpa using this)
theorem ZW(l:List CX)(k:Nat):Df ((l.map Nx).take k)=Df (l.take k):=by
 induction l generalizing k with
 | nil=>simp
 | cons s r ih=>cases k with
   | zero=>simp
   | succ k=>simp only[AD,List.take_succ_cons,Df,ih];rfl
theorem Agy{n:Nt}(hv:validN n):∃b,Eu Cp.init (Dy n)=(none,b)/\BI b/\NI b/\b.net=n/\b.bl=n.blocks/\b.sp=n.spurs.map Nx/\b.cf=true:=by
 have WH:=hv;obtain ⟨hb,hs6,N2,hr8,hcf,Fs,Vd,_⟩:=hv;have O8:=hb.2.2.1;obtain ⟨b1,a1,a2,a3,a4,a5,a6,a7,a8,a9⟩:=An0 WH n.blocks.length (Ai _);rw[Aw] at a1 a4;have c1:=Amz WH a2 a3 a4 a5 n.blocks.length (Ai _);have Azc:∀x∈Gx n n.blocks.length,x.names.length<=10/\x.B2.length<=10:=by
   intro x hx;obtain ⟨y,_,hy⟩:=Bl.1 hx;exact Yj n y x hy
 obtain ⟨c2,c3⟩:=JA _ _ _ Azc a2 a3 c1;have ht:n.next.take n.blocks.length=n.next:=by rw[<-O8,Aw]
 rw[Nat.sub_self,List.replicate_zero,List.append_nil,ht] at c1 c2 c3;obtain ⟨b3,d1,d2,d3,d4,d5,d6,d7,d8⟩:=Ah1 WH c2 c3 a4 a6 n.spurs.length (Ai _);rw[Aw] at d1 d6;have e1:=Amy WH d2 d3 d6 (d7.trans a8) n.BW.length (Ai _);rw[Aw] at e1;have Azb:∀x∈Hk n n.BW.length,x.names.length<=10/\x.B2.length<=10:=by
   intro x hx;obtain ⟨i,_,hx⟩:=Bl.1 hx;obtain ⟨b,_,rfl⟩:=AN.1 hx;simp[LO]
 obtain ⟨e2,e3⟩:=JA _ _ _ Azb d2 d3 e1;have f1:=KB (Aq6 (b:={b3 with pl:=n.BW.map (j9 n.spurs)}) hcf (d8.trans a9));have e0:=(FZ _ _ _ _ a1).trans ((FZ _ _ _ _ c1).trans ((FZ _ _ _ _ d1).trans ((FZ _ _ _ _ e1).trans f1)));have ee:Gy n=n.blocks.map KA++(Gx n n.blocks.length++(n.spurs.map (F8 n)++(Hk n n.BW.length++[⟨6,0,[],[n.cq,n.ca,n.cd,n.cp]⟩]))):=by simp only[Gy,GS,Jd,A1]
 rw[<-ee] at e0;obtain ⟨f2,f3⟩:=JA _ _ _ (λ x hx=>by rw[Av.1 hx];simp) e2 e3 f1;refine ⟨_,VS _ 0 _ _ e0,f2,f3,?_,d4.trans a4,d6,rfl⟩;have g1:(ME b3.bl.length b3.sp b3.ba)=n.spurs:=by
   apply List.ext_getElem (by rw[OF _ _ _ d2.nba,d6];simp);intro i h1 h2;rw[<-Vn (x:=B8) h1,<-Vn (x:=B8) h2];have hi:i<b3.sp.length:=by rw[d6];simpa using h2
   rw[Anx _ _ _ d2.nba i hi,d3.ba i hi,d6,ZW,getD_map' Nx n.spurs i B8 B8 h2];have:=(Fs i h2).2.2.2.2.2.2;rw[d4,a4,<-this];rfl
 have g2:(n.BW.map (j9 n.spurs)).map (plB n.spurs)=n.BW:=by
   rw[List.map_map];apply List.ext_getElem (by simp);intro i h1 h2;obtain ⟨j,hj,i1,i2,i3,i4⟩:=Wh Fs Vd h2;rw[Vn h2] at i4;rw[List.getElem_map]
   show plB n.spurs (j9 n.spurs n.BW[i])=_
   rw[i4,plB];simp only[Ab];omega
 have g3:n.next.map DN=n.next:=by
   apply List.ext_getElem (by simp);intro i h1 h2;rw[List.getElem_map];have:=(hb.2.2.2 i (by omega)).2.2;rw[Vn h2] at this;exact Arz this
 unfold Cp.net;simp only;rw[g1,g2,d5];simp only;rw[g3,d4,a4]
theorem Aa6{n:Nt}(hv:validN n):nbuildV (Dy n)=(n,0,0):=by
 obtain ⟨b,h1,h2,h3,h4,h5,h6,h7⟩:=Agy hv;unfold nbuildV;rw[h1];simp only;rw[if_neg (by rw[h5];have:=hv.1.1;simp only[Ao];omega),h4,h6];rw[if_neg];intro he;obtain ⟨_,_,_,_,_,_,_,hd⟩:=hv;obtain ⟨s,hs⟩:=List.exists_mem_of_length_pos hd;rw[List.mem_filter] at hs;rw[List.any_eq_false] at he;exact he (Nx s) (AN.2 ⟨s,hs.1,rfl⟩) hs.2
theorem Apb{g:List (List Int)}(hg:DI g):ZA g:=⟨hg.1,λ _ hv=>Abk hg hv⟩
theorem all_zero{g:List (List Int)}{l:List Int}(hl:l.length=g.length):(l.all λ x=>decide (x=0))=true↔∀v,v<g.length->l.getD v (-1)=0:=by
 rw[AB];constructor
 . intro h v hv;have e:l.getD v (-1)=l[v]'(by omega):=getD_eq (by omega);rw[e];exact Ad (h _ (AW _))
 . intro h x hx;obtain ⟨v,hv,rfl⟩:=AA.1 hx;have e:l.getD v (-1)=l[v]:=getD_eq hv;rw[<-e];exact Ag (h v (by omega))
def Aq1(n:Nt):Bool:=(Fq n.next (Ht n)).all λ x=>decide (x=0)
theorem Amx{n:Nt}(hv:validN n):Aq1 n=true↔Arc n.next (Ht n):=by
 obtain ⟨hg,_,hl⟩:=DU hv;have h1:0<n.next.length:=by have:=hv.1.1;omega
 unfold Aq1 Ht;rw[all_zero (Qb _ _).1,Ah0 (Apb hg) h1]
def Av3:Nt:=⟨[],[],[],[],0,0,0,0⟩
def Ax9:JR:=⟨0,[],0,0⟩
def Aj4(n:Nt):Nt×JR×Int×Int:=if Aq1 n=false then (Av3,Ax9,0,17) else if (GX n).cap<((n.BW.length:Nat):Int) then (Av3,Ax9,0,18) else (n,GX n,0,0)
theorem Adi{n:Nt}(hv:validN n):Iy (Sh n).1=some (Aj4 n):=by
 obtain ⟨I4,Mh,htl,Xx,Un⟩:=Ty n hv;have hml:((Dy n).map NY).length=(Dy n).length:=by simp
 have hb:=QZ (Dy n) [] I4;rw[Be] at hb;unfold Sh;rw[if_pos hv];exact SM (ls:=(Dy n).map NY) (YM _ Mh htl) ⟨by omega,λ x hx=>by have:=(Un x hx).2;omega⟩ hb (Agc hv) (Aa6 hv) hv
end Go.Am
end
noncomputable section
namespace Go.Am
open Go Go.Proofs
open Tryz
open Classical in noncomputable def rCells_v (n:Nt):Option Int:=if validN n then some (cellsV n) else none
set_option maxRecDepth 100000
set_option linter.unusedVariables false
set_option linter.unusedSimpArgs false
set_option maxHeartbeats 2000000
theorem j5(n:Nt)(r:Int)(h:rCells_v n=some r):BV prog 49 [.agg [.p (.sl (C0 n.blocks)),.p (.sl (Cw n.next)),.p (.sl (CY n.spurs)),.p (.sl (BT n.BW)),.p (.int .i64 n.cq),.p (.int .i64 n.ca),.p (.int .i64 n.cd),.p (.int .i64 n.cp)]] [] λ h d=>h=[]/\d= .p (.int .i64 r):=by unfold rCells_v at h;split at h<;>cases h;rename_i hs;exact Amg n hs
open Classical in noncomputable def rSlots_v (n:Nt) (sh:List Bool):Option Int:=if validN n/\(sh.length:Int)=cellsV n then some (slotsV sh n.spurs) else none
theorem j3(n:Nt)(sh:List Bool)(r:Int)(h:rSlots_v n sh=some r):BV prog 48 [.agg [.p (.sl (C0 n.blocks)),.p (.sl (Cw n.next)),.p (.sl (CY n.spurs)),.p (.sl (BT n.BW)),.p (.int .i64 n.cq),.p (.int .i64 n.ca),.p (.int .i64 n.cd),.p (.int .i64 n.cp)],.p (.sl (CW sh))] [] λ h d=>h=[]/\d= .p (.int .i64 r):=by unfold rSlots_v at h;split at h<;>cases h;rename_i hs;exact Ahz n hs.1 sh hs.2
def OM(a0:Nt):Option (JR×Int):=
 Option.bind (LN (⟨a0.blocks,a0.next,a0.spurs,a0.BW,a0.cq,a0.ca,a0.cd,a0.cp⟩:Nt)) λ x1=>cond x1 (cond (decide (a0.blocks.length<10000000)) (Option.bind (LS a0.next (List.replicate a0.blocks.length false)) λ (x5,x6,x7)=>Option.bind (rCells_v (⟨a0.blocks,a0.next,a0.spurs,a0.BW,a0.cq,a0.ca,a0.cd,a0.cp⟩:Nt)) λ x9=>cond (decide (0<=x9)&&decide ((Int.toNat x9)<10000000)) (Option.bind (rSlots_v (⟨a0.blocks,a0.next,a0.spurs,a0.BW,a0.cq,a0.ca,a0.cd,a0.cp⟩:Nt) (List.replicate (Int.toNat x9) false)) λ VY=>cond (decide (0<x5)) (some ((⟨x5,x6,VY,(if VY<(IntKind.i64.wrap (x5 - 1)) then VY else (IntKind.i64.wrap (x5 - 1)))⟩:JR),0)) (some ((⟨x5,x6,VY,VY⟩:JR),0))) none) none) (some ((⟨0,[],0,0⟩:JR),20))
theorem j4(a0:Nt)(r:JR×Int)(hr:OM a0=some r):
   BV prog 21 [.agg [.p (.sl (C0 a0.blocks)),.p (.sl (Cw a0.next)),.p (.sl (CY a0.spurs)),.p (.sl (BT a0.BW)),.p (.int .i64 a0.cq),.p (.int .i64 a0.ca),.p (.int .i64 a0.cd),.p (.int .i64 a0.cp)]] [] λ h d=>h=[]/\d= .De [.agg [.p (.int .i64 r.1.Pb),.p (.sl (BT r.1.Rk)),.p (.int .i64 r.1.Ch),.p (.int .i64 r.1.cap)],.p (.int .i64 r.2)]:=by
 refine BX func21 rfl Alq (by simp[Tryz.f21]) ?_;unfold OM at hr;obtain ⟨x1,g2,hr⟩:=bE hr;try simp only[go_sem]
 refine Cq (b9 (⟨a0.blocks,a0.next,a0.spurs,a0.BW,a0.cq,a0.ca,a0.cd,a0.cp⟩:Nt) _ g2) ?_;cases c3:x1
 . simp only[c3,Aj] at hr;cases hr;(try simp only[go_sem,c3]);all_goals ((try refine BU ?_);(try simp only[go_sem,c3]);try first | rfl | exact ⟨rfl,rfl⟩ | (simp;done))
 simp only[c3,Ak] at hr;try simp only[go_sem,c3]
 refine CE mixed (p:=[(0,0),(1,0),(2,0),(3,0),(4,0),(5,1),(6,2),(7,0),(8,0),(9,0),(10,0),(11,0),(12,0),(13,0)]) (by kernel_rfl) (by simp[C5,get]) ?_;obtain ⟨c4,hr⟩:=gE hr;try simp only[go_sem]
 refine ⟨by have:=Ad c4;omega,?_⟩;obtain ⟨⟨x5,x6,x7⟩,g8,hr⟩:=bE hr;try simp only[go_sem,EJ]
 refine Gq (j6 a0.next (List.replicate a0.blocks.length false) _ g8) ?_;try simp only[go_sem]
 refine CE mixed (p:=[(0,0),(1,0),(2,0),(3,0),(8,1),(4,2),(5,1),(6,2),(7,0),(9,3)]) (by kernel_rfl) (by simp[C5,get]) ?_;obtain ⟨x9,g10,hr⟩:=bE hr;try simp only[go_sem]
 refine Gq (j5 (⟨a0.blocks,a0.next,a0.spurs,a0.BW,a0.cq,a0.ca,a0.cd,a0.cp⟩:Nt) _ g10) ?_;obtain ⟨c11,hr⟩:=gE hr;try simp only[go_sem]
 refine ⟨by simp only[Ar,Ao] at c11;omega,?_⟩;obtain ⟨VY,g13,hr⟩:=bE hr;try simp only[go_sem,EJ]
 refine Au1 rfl rfl (j3 (⟨a0.blocks,a0.next,a0.spurs,a0.BW,a0.cq,a0.ca,a0.cd,a0.cp⟩:Nt) (List.replicate (Int.toNat x9) false) _ g13) (by simp[KC,TR,ev,get,AV,ZB]<;>rfl) ?_;rintro h' r ⟨rfl,rfl⟩;refine ⟨rfl,rfl,?_⟩;cases c14:decide (0<x5)
 . simp only[c14,Aj] at hr;cases hr;(try simp only[go_sem,c14]);all_goals ((try refine BU ?_);(try simp only[go_sem,c14]);try first | rfl | exact ⟨rfl,rfl⟩ | (simp;done))
 simp only[c14,Ak] at hr;cases hr;try simp only[go_sem,c14]
 all_goals ((try refine BU ?_);(try simp only[go_sem,c14]);try first | rfl | exact ⟨rfl,rfl⟩ | (simp;done))
end Go.Am
end
noncomputable section
namespace Go.Am
open Go Go.Proofs
open Tryz
set_option maxRecDepth 100000
set_option linter.unusedVariables false
set_option linter.unusedSimpArgs false
set_option maxHeartbeats 2000000
theorem Auy(c j:Nat):(List.replicate c false).getD j false=false:=by
 simp only[List.getD,Bw];split<;>rfl
theorem QR(c:Nat)(l:List CX):slotsV (List.replicate c false) l=Db l:=by
 induction l with
 | nil=>rfl
 | cons s r ih=>
   have ho:L0 (List.replicate c false) s=true:=by
     unfold L0;simp only[Auy,Bool.not_false,Bz,AB];intro _ _;trivial
   simp only[slotsV,Db,ih,ho,Bool.and_true]
theorem Acs(n:Nt)(hs:JF n):OM n=some (if validN n then (GX n,0) else (⟨0,[],0,0⟩,20)):=by
 unfold OM;have hv:=UO n hs;rw[show (⟨n.blocks,n.next,n.spurs,n.BW,n.cq,n.ca,n.cd,n.cp⟩:Nt)=n from rfl,hv];simp only[Aa];by_cases hn:validN n
 . obtain ⟨hg,_,hl⟩:=DU hn;have Fs:Dw n.blocks.length n.spurs:=hn.2.2.2.2.2.1;have h6:n.spurs.length<=6:=hn.2.1;have Qu:=hg.1;have hsum:=R4 Fs;have WR:0<=cellsV n/\cellsV n<=100:=by unfold cellsV;omega
   rw[if_pos hn,Ag hn];have c1:decide (n.blocks.length<10000000)=true:=Ag (by omega);have hc:rCells_v n=some (cellsV n):=by unfold rCells_v;rw[if_pos hn]
   have r7:rSlots_v n (List.replicate (cellsV n).toNat false)=some (Db n.spurs):=by
     unfold rSlots_v;rw[if_pos ⟨hn,by rw[List.length_replicate];omega⟩,QR]
   simp only[Ak,c1];rw[<-hl,Acw hg (by simp)];simp only[Aa];rw[hc];simp only[Aa];have c2:(decide (0<=cellsV n)&&decide ((cellsV n).toNat<10000000))=true:=by
     rw[Ag WR.1,Ag (show (cellsV n).toNat<10000000 by omega)];rfl
   simp only[c2,Ak];rw[r7];simp only[Aa];have hgl:=N4 hg (List.replicate n.next.length false);unfold GX Ht;dsimp only;by_cases c2:0<(DV n.next (List.replicate n.next.length false)).length
   . rw[Ag (show (0:Int)<(((DV n.next (List.replicate n.next.length false)).length:Nat):Int) by omega)];simp only[Ak];rw[BY (by omega) (by omega)];by_cases c3:(((DV n.next (List.replicate n.next.length false)).length:Nat):Int) - 1<Db n.spurs
     . rw[if_neg (by omega),if_pos ⟨c2,c3⟩]
     . by_cases c4:Db n.spurs<(((DV n.next (List.replicate n.next.length false)).length:Nat):Int) - 1
       . rw[if_pos c4,if_neg (λ h=>c3 h.2)]
       . rw[if_neg c4,if_neg (λ h=>c3 h.2)];have e:(((DV n.next (List.replicate n.next.length false)).length:Nat):Int) - 1=Db n.spurs:=by omega
         rw[e]
   . rw[Ah (show ¬(0:Int)<(((DV n.next (List.replicate n.next.length false)).length:Nat):Int) by omega)];simp only[Aj];rw[if_neg (λ h=>c2 h.1)]
 . rw[if_neg hn,Ah hn];simp only[Aj]
theorem Aej(n:Nt)(hn:validN n):BV prog 21 [.agg n.cs] [] λ h r=>h=[]/\∃(o:List Int) (sl cap:Int),r= .De [.agg [.p (.int .i64 (o.length:Nat)),.p (.sl (BT o)),.p (.int .i64 sl),.p (.int .i64 cap)],.p (.int .i64 0)]/\cap<=sl/\sl=slotsV (List.replicate (cellsV n).toNat false) n.spurs/\cap=(GX n).cap:=by
 have h:=j4 n _ (Acs n (IN hn));rw[if_pos hn] at h;refine h.mono ?_;rintro h' r ⟨rfl,rfl⟩;refine ⟨rfl,(GX n).Rk,(GX n).Ch,(GX n).cap,rfl,?_,?_,rfl⟩
 . unfold GX;dsimp only;split<;>omega
 . rw[QR];rfl
theorem Ais(l:List Int)(at_ JI:Nat)(Ij:at_<100000)(RR:1<=JI)(RA:JI<=10):
   BV prog 24 [.ptr 1000000 0,.p (.int .i64 (JI:Nat))] [(1000000,.box (C7 l at_))]
     λ h r=>∃at2 n,at2<=at_+200/\(Xm n/\(n.BW.length:Int)<=(GX n).cap)/\h=[(1000000,.box (C7 l at2))]/\r= .agg n.cs:=
 Aok (λ n=>Xm n/\(n.BW.length:Int)<=(GX n).cap) (λ l at_ JI h1 h2 h3=>(Air (λ n c=>c=(GX n).cap) Aej l at_ JI h1 h2 h3).mono λ _ _ ⟨at2,n,g1,⟨g2,cap,g3,g4⟩,g5⟩=>⟨at2,n,g1,⟨g2,by
   have h5:=Zm g2.valid;have h6:GX {n with BW:=[]}=GX n:=rfl;rw[h6] at g3;omega⟩,g5⟩) l at_ JI Ij RR RA
theorem Xm.all{n:Nt}(h:Xm n):Aq1 n=true:=by
 refine (Amx h.valid).2 ?_;have hb:=h.nb;have ho:∀v,(Ht n).getD v false=false:=λ v=>X0 _ _;have key:∀v,v<n.blocks.length->∀k,JB n.next (Ht n) v ((v+k) % n.blocks.length):=by
   intro v hv k
   induction k with
   | zero=>rw[Bh,Nat.mod_eq_of_lt hv];exact .refl _
   | succ k ih=>
     by_cases h1:1<n.blocks.length
     . refine ih.tail ⟨?_,ho _⟩;have Cj:(v+k) % n.blocks.length<n.blocks.length:=Nat.mod_lt _ (by omega);have:=(h.nx _ Cj).2.2.2 h1;rwa[Nat.mod_add_mod] at this
     . have e:n.blocks.length=1:=by omega
       rw[e,Nat.mod_one];rw[e,Nat.mod_one] at ih;exact ih
 refine ⟨⟨0,by rw[h.nl];omega,ho 0⟩,λ v w hv hw _ _=>?_⟩;rw[h.nl] at hv hw;have:=key v hv (w+n.blocks.length - v);rwa[show v+(w+n.blocks.length - v)=w+n.blocks.length by omega,Nat.add_mod_right,Nat.mod_eq_of_lt hw] at this
theorem n7{n:Nt}(h:Xm n)(hc:(n.BW.length:Int)<=(GX n).cap):Aj4 n=(n,GX n,0,0):=by
 unfold Aj4;rw[if_neg (by rw[h.all];simp),if_neg (by omega)]
theorem Ag6(l:List CX)(i:Nat)(h:i<l.length):(CY l).getD i []=[.str (l.getD i B8).name,.bool (l.getD i B8).Cy,.int .i64 (l.getD i B8).Ip,.int .i64 (l.getD i B8).out,.int .i64 (l.getD i B8).Ch,.int .i64 (l.getD i B8).base]:=FH l i h
theorem Wx(l:List Int):
   BV prog 6 [.p (.sl (BT l))] [(1000000,(.C8 1 JZ))] λ h r=>h=[(1000000,(.C8 1 JZ))]/\r= .p (.bool true):=by
 refine BX func6 rfl Abn (by simp[Tryz.f6]) ?_;simp only[go_sem];refine DY ((p4).C8 (id:=1000000) (by decide) rfl (by simp[C6,D.ids,DL]) (λ h1 r hr=>by rw[hr.1];rfl)) ?_;rintro h' r ⟨_,⟨rfl,rfl⟩,rfl⟩;simp only[go_sem];refine DY ((Ais l 0 10 (by omega) (by omega) (by omega)).C8 (id:=1000001) (by decide) rfl (by simp[C6,D.ids,DL,C7,AO.ids,get]) (λ h1 r hr=>by obtain ⟨_,_,_,_,rfl,rfl⟩:=hr;rfl)) ?_;rintro h' r ⟨h1,⟨at2,n,hat2,⟨hn,Ii⟩,rfl,rfl⟩,rfl⟩;have hv:=hn.valid;have hs:=IN hv;have hg:=(DU hv).1;have hl1:n.blocks.length<=24:=hv.1.2.1;have hsv:(Sh n).2=0:=by unfold Sh;rw[if_pos hv]
 have Ar6:=Adi hv;rw[n7 hn Ii] at Ar6;have hL:=Qf _ _ Ar6;have hG:=S8 n.next (List.replicate n.blocks.length false) _ (by rw[<-(DU hv).2.2];exact Vp hg (by simp))
 have hgl:=N4 hg (List.replicate n.next.length false);have hcy:(GX n).Rk=DV n.next (List.replicate n.next.length false):=rfl
 have Hw:(GX n).Pb=(((DV n.next (List.replicate n.next.length false)).length:Nat):Int):=rfl;have r7:(GX n).Ch=Db n.spurs:=rfl;have hcp:=Zm hv;have WQ:(GX n).cap=if 0<(DV n.next (List.replicate n.next.length false)).length/\(((DV n.next (List.replicate n.next.length false)).length:Nat):Int) - 1<Db n.spurs then (((DV n.next (List.replicate n.next.length false)).length:Nat):Int) - 1 else Db n.spurs:=rfl
 generalize DV n.next (List.replicate n.next.length false)=W at*
 generalize GX n=cv at*;have Fs:Dw n.blocks.length n.spurs:=hv.2.2.2.2.2.1;have hs6:n.spurs.length<=6:=hv.2.1;have hI:=Rq W W true (T9 W (by omega));simp only[go_sem,C7,Nt.cs];refine Cq ((Aja n hs)) ?_;simp only[go_sem,hsv,Nt.cs];refine DY ((hL).C8 (id:=1000000) (by decide) rfl (by simp[C6,D.ids,DL]) (λ h1 r hr=>by rw[hr.1];rfl)) ?_;rintro h' r ⟨_,⟨rfl,rfl⟩,rfl⟩;simp only[go_sem];refine Di [(3,.box [.p (.sl (C0 n.blocks)),.p (.sl (Cw n.next)),.p (.sl (CY n.spurs)),.p (.sl (BT n.BW)),.p (.int .i64 n.cq),.p (.int .i64 n.ca),.p (.int .i64 n.cd),.p (.int .i64 n.cp)])] mixed (p:=[(0,0),(1,0),(2,0),(3,0),(4,0),(5,1),(6,2),(7,0),(8,0),(9,0),(10,0),(11,0),(12,0),(13,0)]) (by kernel_rfl) (by simp[C5,get]) ?_;simp only[go_sem,Ce];refine ⟨by omega,?_⟩;simp only[go_sem,EJ];refine Abw ((hG).C8 (id:=1000000) (by decide) rfl (by simp[C6,D.ids,DL]) (λ h1 r hr=>by rw[hr.1];rfl)) ?_;rintro h' r ⟨_,⟨rfl,rfl⟩,rfl⟩;simp only[go_sem];refine B3 (λ i=>⟨[(3,.ptr 3 0),(5,.p (.int .i64 0)),(7,.ptr 7 0),(9,.p (.int .i64 0)),(10,.p (.int .i64 (W.length:Nat))),(11,.p (.sl (BT W))),(12,.p (.int .i64 0)),(13,.p (.int .i64 (Db (n.spurs.take i)))),(14,.p (.int .i64 (i:Nat)))],
   [(3,.box [.p (.sl (C0 n.blocks)),.p (.sl (Cw n.next)),.p (.sl (CY n.spurs)),.p (.sl (BT n.BW)),.p (.int .i64 n.cq),.p (.int .i64 n.ca),.p (.int .i64 n.cd),.p (.int .i64 n.cp)]),(7,.box [.p (.int .i64 cv.Pb),.p (.sl (BT cv.Rk)),.p (.int .i64 cv.Ch),.p (.int .i64 cv.cap)]),(1000000,(.C8 1 JZ))],116⟩)
   (λ i=>i<=n.spurs.length) (λ i=>n.spurs.length - i) 0 (by omega) (Wk.forget (by simp[ZF,Db])) ?_
 rintro i m hi ih;cases c1:decide ((i:Int)<(n.spurs.length:Int))
 . have hie:i=n.spurs.length:=by have:=Ae c1;omega
   subst hie;have ZK:n.spurs.take n.spurs.length=n.spurs:=AV (Ai _);rw[ZK] at*;obtain ⟨g1,g2,g3,g4⟩:=cv;simp only at hcy Hw r7 hcp WQ;rw[hcy,Hw,r7] at*;clear hcy Hw r7;have hcd:decide (1<=g4)=true:=Ag hcp;simp only[go_sem,Cm,c1];cases e1:decide (0<((W.length:Nat):Int))
   . have he:g4=Db n.spurs:=by rw[WQ,if_neg (λ h=>by have:=Ae e1;omega)]
     subst he;simp only[go_sem,e1];refine DY ((hI).C8 (id:=1000000) (by decide) rfl (by simp[C6,D.ids,DL]) (λ h1 r hr=>by rw[hr.1];rfl)) ?_;rintro h' r ⟨_,⟨rfl,rfl⟩,rfl⟩;simp only[go_sem,hcd]
   have Qk:IntKind.i64.wrap (((W.length:Nat):Int) - 1)=((W.length:Nat):Int) - 1:=by rw[BY (by omega) (by omega)]
   have hW:=Ad e1;cases e2:decide (((W.length:Nat):Int) - 1<Db n.spurs)
   . have he:g4=Db n.spurs:=by rw[WQ,if_neg (λ h=>by have:=Ae e2;omega)]
     subst he;simp only[go_sem,e1,Qk,e2];refine DY ((hI).C8 (id:=1000000) (by decide) rfl (by simp[C6,D.ids,DL]) (λ h1 r hr=>by rw[hr.1];rfl)) ?_;rintro h' r ⟨_,⟨rfl,rfl⟩,rfl⟩;simp only[go_sem,hcd]
   . have he:g4=((W.length:Nat):Int) - 1:=by rw[WQ,if_pos ⟨by omega,Ad e2⟩]
     subst he;simp only[go_sem,e1,Qk,e2];refine DY ((hI).C8 (id:=1000000) (by decide) rfl (by simp[C6,D.ids,DL]) (λ h1 r hr=>by rw[hr.1];rfl)) ?_;rintro h' r ⟨_,⟨rfl,rfl⟩,rfl⟩;simp only[go_sem,hcd]
 . have Cj:i<n.spurs.length:=by have:=Ad c1;omega
   have DH:(0:Int)<=(i:Int)/\(i:Int)<(n.spurs.length:Int):=by omega
   have hgs:=Ag6 n.spurs i Cj;have hw:=Cf i (by omega);have hr:=NG Fs i (by omega);obtain ⟨_,_,_,_,h5,h6,_⟩:=Fs i Cj;have hws:IntKind.i64.wrap (Db (n.spurs.take i)+(n.spurs.getD i B8).Ch)=Db (n.spurs.take i)+(n.spurs.getD i B8).Ch:=by rw[BY (by omega) (by omega)]
   have Ul:Db (n.spurs.take (i+1))=Db (n.spurs.take i)+(if (n.spurs.getD i B8).Cy=true then (n.spurs.getD i B8).Ch else 0):=by rw[Cr n.spurs i B8 Cj,LJ]
   cases hd:(n.spurs.getD i B8).Cy
   . rw[hd,if_neg (by simp),Int.add_zero] at Ul;simp only[go_sem,Cm,c1,Ab,DH,hgs,hd,hw];refine ih (i+1) _ (by omega) (by omega) ?_
     (refine Wk.forget ?_;simp[ZF,Ul];done)
   . rw[hd,if_pos rfl] at Ul;simp only[go_sem,Cm,c1,Ab,DH,hgs,hd,hw,hws];refine ih (i+1) _ (by omega) (by omega) ?_
     (refine Wk.forget ?_;simp[ZF,Ul];done)
end Go.Am
end
