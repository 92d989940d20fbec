/- Texts of this proof, what it rests on, merged: part J. -/
import Derived.Test.YtlfbkkljgighkaaGreatDoorSkI
noncomputable section
namespace Go.Am
open Go
open Go Go.Proofs
open Go.IntKind (i64)
open Tryz
set_option maxRecDepth 100000
set_option linter.unusedVariables false
set_option linter.unusedSimpArgs false
set_option maxHeartbeats 2000000
theorem Vt.same{C S T}{u}(h:Vt C S T u)(v)(a:v.Eu=u.Eu)(h2:v.cell=u.cell)(b:v.E9=u.E9)(f:v.DY=u.DY)(g:v.state=u.state)(i:∀c∈v.Db,0<=c/\c<(C:Int))(j:v.Db.length<=1000):Vt C S T v:=
 ⟨a ▸ h.hm,h2 ▸ h.ce,b ▸ h.tt,f ▸ h.tk,i,j,λ e=>by rw[h2];exact h.ac (g ▸ e)⟩
theorem DK.Am6{C B S U T}{d}(h:DK C B S U T d)(e):DK C B S U T {d with CO:=e}:=⟨h.n,h.k,h.s,h.ul,h.uo,h.tl,h.t32,h.to⟩
def P4(C B S U T:Nat)(d:DX)(a:Ah)(k:Nat)(r:Aa×Ab×Ah×Ak):Prop:=
 DK C B S U T {d with CP:=r.1,CQ:=r.2.1,CN:=r.2.2.1,CO:=r.2.2.2}/\r.1=d.CP/\r.2.2.1.map core=a.map core/\r.2.2.1.length=d.CN.length/\r.2.2.2.length<=d.CO.length+k
theorem Pr{C B S U T}{d}(h:DK C B S U T d)(a s)(u)(q:0<=a/\a<(U:Int))(m:d.CN[a.toNat]?=some u)(K:0<=KD u)(r:0<=s/\s<(S:Int))(I:d.CO.length<=100000):DU (GJ d a s) (P4 C B S U T d d.CN 2):=by
 have OS:=h.ul;have f:0<=a/\a<(d.CN.length:Int):=AQ;have UH:=Bt m;have Hx:=h.uo u UH;unfold GJ;refine tI f λ x hx N=>?_;obtain rfl:u=x:=by rw[m] at hx;exact Bf hx
 refine tB (Fj _ 23 a s AS) λ e j=>tJ f (tT (YK _) ?_);have l:=j.2;dsimp only at l;refine tB (Avg h.n d.sg h.s _ s (by have:=Hx.last;unfold KD at*;dsimp only;omega) r) ?_;rintro ⟨w,Q⟩ ⟨o,g⟩;dsimp only at o;simp only[Cp];have key:∀b:Aa,b.length<=1000->(∀c∈b,0<=c/\c<(C:Int))->DK C B S U T {d with CN:=d.CN.set a.toNat {u with EH:=0,Db:=b},CO:=e}/\(d.CN.set a.toNat {u with EH:=0,Db:=b}).map core=d.CN.map core:=λ b i h2=>
   ⟨(h.N4 a.toNat {u with EH:=0,Db:=b} (Hx.same _ rfl rfl rfl rfl rfl h2 i)).Am6 e,D2 m rfl⟩
 have fin:∀b:Aa,b.length<=1000->(∀c∈b,0<=c/\c<(C:Int))->DU (Option.bind (GR {d with CN:=d.CN.set a.toNat {u with EH:=0,Db:=b},CO:=e} a) λ x=>some (x.1,x.2.1,x.2.2.1,x.2.2.2)) (P4 C B S U T d d.CN 2):=λ b i h2=>by
   refine tB (L9 (key b i h2).1 a q AS) ?_;rintro ⟨R,V,W,Y⟩ ⟨t,v,z,E,H⟩;exact tS ⟨t,v,z.trans (key b i h2).2,by simpa using E,by dsimp only at H ⊢;omega⟩
 have stay:∀b:Aa,b.length<=1000->(∀c∈b,0<=c/\c<(C:Int))->P4 C B S U T d d.CN 2 (d.CP,d.CQ,d.CN.set a.toNat {u with EH:=0,Db:=b},e):=λ b i h2=>
   ⟨(key b i h2).1,rfl,(key b i h2).2,AT,AS⟩
 refine tC (λ _=>tJ f ?_) (λ _=>tB (LS h.k a) λ p _=>tD (λ _=>tJ f ?_) λ _=>tS (stay [] AT all_nil))
 . refine tB (LS h.k a) λ p _=>tD (λ _=>tJ f ?_) λ _=>tS (stay w AQ g);exact tD (λ _=>fin w AQ g) λ EG=>tI AQ λ y _ _=>tD (λ _=>tS (stay w AQ g)) λ _=>fin w AQ g
 . dsimp only;exact tD (λ _=>fin [] AT all_nil) λ EG=>absurd rfl EG
theorem PT{C B S U T}{d}(h:DK C B S U T d)(a)(u)(z:0<=a/\a<(U:Int))(R:d.CN[a.toNat]?=some u)(hl:0<=KD u)(he:d.CO.length<=100000 - 10):DU (FZ d a) (λ r=>∃p:Int,(p=0∨p=3)/\P4 C B S U T d (d.CN.set a.toNat {u with DY:=-1,Du:=p}) 3 r):=by
 have OS:=h.ul;have b:0<=a/\a<(d.CN.length:Int):=AQ;have UH:=Bt R;have Hx:=h.uo u UH;have E:=Hx.last;unfold FZ;refine tI b λ x hx hm=>?_;obtain rfl:u=x:=by rw[R] at hx;exact Bf hx
 refine tJ b (tT (YK _) ?_);have a1:KD {u with DY:=-1}=KD u:=rfl;simp only[Cp];have g:∀v:KM,v.Eu=u.Eu->v.cell=u.cell->v.E9=u.E9->v.DY=-1->v.state=u.state->(∀c∈v.Db,0<=c/\c<(C:Int))->v.Db.length<=1000->Vt C S T v:=λ v q h2 s t w h6 h7=>
   ⟨q ▸ Hx.hm,h2 ▸ Hx.ce,s ▸ Hx.tt,by rw[t];omega,h6,h7,λ e=>by rw[h2];exact Hx.ac (w ▸ e)⟩
 have l:∀v:KM,v.cell=u.cell->v.E9=u.E9->v.DY=-1->v.state=u.state->(d.CN.set a.toNat v).map core=(d.CN.set a.toNat {u with DY:=-1,Du:=v.Du}).map core:=λ v h2 s t w=>by
   unfold core;simp[h2,s,t,w]
 refine tB (Ab0 h.n (KD u) E.2) λ dp a0=>tD (λ h0=>?_) λ hn=>?_
 . have J9:=h.N4 a.toNat {u with DY:=-1,Du:=0} (g _ rfl rfl rfl rfl rfl Hx.rt Hx.rl);refine tB (L9 J9 a z AS) ?_;rintro ⟨W,Y,N,Z⟩ ⟨j,m,k,i,o⟩;dsimp only at o;rw[Bv] at i;refine tG i λ _=>tI AQ λ y V I=>tT (YK y) ?_;have f:core y=core {u with DY:=-1,Du:=0}:=by
     have q:(N.map core)[a.toNat]?=some (core y):=by rw[BD,V];rfl
     rw[k,BD,gs AQ] at q;exact (Bf q).symm
   unfold core at f;simp only[Cs] at f;have K:=j.uo y I;have a2:KD y=KD u:=by unfold KD;rw[f.2.1,f.2.2.1]
   refine tB (XD h.n (KD y) AQ) λ rt H=>tS ⟨0,Or.inl rfl,?_,m,?_,by simpa using i,AS⟩
   . exact j.N4 a.toNat {y with Db:=rt} (K.same _ rfl rfl rfl rfl rfl H.2 AS)
   . dsimp only;rw[D2 V (by rfl),k]
 . refine tJ b (tD (λ Q=>?_) λ Q=>?_)
   . have J9:=h.N4 a.toNat {u with DY:=-1,Du:=3} (g _ rfl rfl rfl rfl rfl Hx.rt Hx.rl);refine tB (Pr J9 a u.Eu {u with DY:=-1,Du:=3} z (gs AQ) hl ⟨Q,Hx.hm.2⟩ AS) ?_;rintro ⟨W,Y,N,Z⟩ ⟨j,m,k,i,o⟩;dsimp only at o;exact tS ⟨3,Or.inr rfl,j,m,k.trans (l _ rfl rfl rfl rfl),by simpa using i,AS⟩
   . refine tJ b ?_;have J9:=h.N4 a.toNat {u with DY:=-1,Du:=3,EH:=0,Db:=[]} (g _ rfl rfl rfl rfl rfl all_nil AT);refine tB (L9 J9 a z AS) ?_;rintro ⟨W,Y,N,Z⟩ ⟨j,m,k,i,o⟩;dsimp only at o;exact tS ⟨3,Or.inr rfl,j,m,k.trans (l _ rfl rfl rfl rfl),by simpa using i,AS⟩
def OWN(o:Aa)(a:Ah):Prop:=∀(i:Nat) u,a[i]?=some u->u.state=1->o[u.cell.toNat]?=some (i:Int)/\(u.E9≠-1->o[u.E9.toNat]?=some (i:Int)/\u.E9≠u.cell)
structure TL(us:Ah)(ts:Ao):Prop where
 a:∀(j:Nat) t,ts[j]?=some t->t.state=1∨t.state=2->∃u,us[t.CY.toNat]?=some u/\u.state=1/\u.DY=(j:Int)
 b:∀(i:Nat) u,us[i]?=some u->0<=u.DY->u.state=1/\(u.Du=1∨u.Du=2)/\∃t,ts[u.DY.toNat]?=some t/\t.CY=(i:Int)/\(t.state=1∨t.state=2)
 c:∀(i:Nat) u,us[i]?=some u->u.state=1->u.Du=1∨u.Du=2->0<=u.DY
 d:∀(i:Nat) u,us[i]?=some u->u.state=0->u.E9=-1
theorem Lk{e J8:Ah}(h:J8.map core=e.map core){i:Nat}{b}(f:J8[i]?=some b):∃u,e[i]?=some u/\core u=core b:=by
 have a:(J8.map core)[i]?=some (core b):=by rw[BD,f];rfl
 rw[h,BD] at a;cases hx:e[i]? with
 | none=>rw[hx] at a;cases a
 | some u=>rw[hx] at a;exact ⟨u,rfl,Bf a⟩
theorem Ny{u v}(h:core u=core v):u.state=v.state/\u.cell=v.cell/\u.E9=v.E9/\u.DY=v.DY/\u.Du=v.Du:=by
 unfold core at h;simpa only[Prod.mk.injEq] using h
theorem OWN.core{o}{b J8}(h:OWN o b)(e:J8.map core=b.map core):OWN o J8:=by
 intro i q a l;obtain ⟨u,m,k⟩:=Lk e a;obtain ⟨f,g,j,n,p⟩:=Ny k;have:=h i u m (f.trans l);rw[<-g,<-j];exact this
theorem TL.core{v J8}{s}(h:TL v s)(e:J8.map core=v.map core):TL J8 s:=by
 refine ⟨λ j t y x=>?_,λ i o f w=>?_,λ i o f r h2=>?_,λ i o f w=>?_⟩
 . obtain ⟨u,k,r,h2⟩:=h.a j t y x;obtain ⟨o,f,g⟩:=Lk e.symm k;obtain ⟨l,p,q,m,n⟩:=Ny g;exact ⟨o,f,l.trans r,m.trans h2⟩
 . obtain ⟨u,k,g⟩:=Lk e f;obtain ⟨l,p,q,m,n⟩:=Ny g;have:=h.b i u k AQ;rw[<-l,<-n,<-m];exact this
 . obtain ⟨u,k,g⟩:=Lk e f;obtain ⟨l,p,q,m,n⟩:=Ny g;have:=h.c i u k AQ AQ;omega
 . obtain ⟨u,k,g⟩:=Lk e f;obtain ⟨l,p,q,m,n⟩:=Ny g;have:=h.d i u k AQ;omega
theorem EL{α:Type}{l:List α}{i j}{v x}(h:(l.set i v)[j]?=some x):(i=j/\x=v)∨(i≠j/\l[j]?=some x):=by
 rw[BG] at h;split at h
 . rename_i e;split at h
   . exact Or.inl ⟨e,(Bf h).symm⟩
   . cases h
 . rename_i e;exact Or.inr ⟨e,h⟩
theorem IS{α:Type}{l:List α}{i j}{v}(h:i≠j):(l.set i v)[j]?=l[j]?:=by rw[BG,if_neg h]
theorem TL.finish{q}{o}(h:TL q o){j}{t}{s p}(r:o[j]?=some t)(H:t.state=1∨t.state=2)(E:¬(s=1∨s=2)){i:Nat}{u}(B:t.CY=(i:Int))(l:q[i]?=some u)(I:p=0∨p=3):TL (q.set i {u with DY:=-1,Du:=p}) (o.set j {t with state:=s}):=by
 obtain ⟨K,MN,Vk,Sc⟩:=h.a j t r H;rw[B,Be,l] at MN;cases MN;refine ⟨λ k x hx I3=>?_,λ k x hx f=>?_,λ k x hx g h2=>?_,λ k x hx f=>?_⟩;rotate_left 3
 . rcases EL hx with ⟨rfl,rfl⟩ | ⟨EG,hx⟩
   . exact h.d i u l f
   . exact h.d k x hx f
 . rcases EL hx with ⟨rfl,rfl⟩ | ⟨EG,hx⟩
   . exact absurd I3 E
   . obtain ⟨w,m,g,h2⟩:=h.a k x hx I3;refine ⟨w,?_,g,h2⟩;rw[IS];exact m;intro e;rw[<-e,l] at m;cases m;omega
 . rcases EL hx with ⟨rfl,rfl⟩ | ⟨EG,hx⟩
   . dsimp only at f;omega
   . obtain ⟨g,h2,y,n,v,z⟩:=h.b k x hx f;refine ⟨g,h2,y,?_,v,z⟩;rw[IS];exact n;intro e;rw[<-e,r] at n;cases n;omega
 . rcases EL hx with ⟨rfl,rfl⟩ | ⟨EG,hx⟩
   . dsimp only at h2;omega
   . exact h.c k x hx g h2
theorem TL.drop{l}{g}(h:TL l g){j}{t}{s}(r:g[j]?=some t)(q:¬(t.state=1∨t.state=2))(p:¬(s=1∨s=2)):TL l (g.set j {t with state:=s}):=by
 refine ⟨λ k x hx I3=>?_,λ k x hx m=>?_,h.c,h.d⟩
 . rcases EL hx with ⟨rfl,rfl⟩ | ⟨EG,hx⟩
   . exact absurd I3 p
   . exact h.a k x hx I3
 . obtain ⟨n,h2,y,f,o,i⟩:=h.b k x hx m;refine ⟨n,h2,y,?_,o,i⟩;rw[IS];exact f;intro e;rw[<-e,r] at f;cases f;exact q i
theorem TL.on{m}{i}(h:TL m i){j}{t}{s}(f:i[j]?=some t)(r:t.state=1∨t.state=2)(q:s=1∨s=2):TL m (i.set j {t with state:=s}):=by
 refine ⟨λ k x hx I3=>?_,λ k x hx n=>?_,h.c,h.d⟩
 . rcases EL hx with ⟨rfl,rfl⟩ | ⟨EG,hx⟩
   . exact h.a j t f r
   . exact h.a k x hx I3
 . obtain ⟨o,h2,y,g,l,p⟩:=h.b k x hx n;refine ⟨o,h2,?_⟩;by_cases e:j=x.DY.toNat
   . subst e;rw[f] at g;cases g;exact ⟨_,gs (Fh f),l,q⟩
   . exact ⟨y,by rw[IS e];exact g,l,p⟩
theorem TL.Amy{j}{l}(h:TL j l){i}{u v}(p:j[i]?=some u)(h0:u.DY<0)(q:v.DY<0)(m:v.state=1->¬(v.Du=1∨v.Du=2))(n:v.state=0->v.E9=-1):TL (j.set i v) l:=by
 refine ⟨λ k x hx I3=>?_,λ k x hx o=>?_,λ k x hx f h2=>?_,λ k x hx h0=>by rcases EL hx with ⟨rfl,rfl⟩ | ⟨EG,hx⟩;exact n h0;exact h.d k x hx h0⟩
 . obtain ⟨w,g,f,h2⟩:=h.a k x hx I3;refine ⟨w,?_,f,h2⟩;rw[IS];exact g;intro e;rw[<-e,p] at g;cases g;omega
 . rcases EL hx with ⟨rfl,rfl⟩ | ⟨EG,hx⟩
   . omega
   . exact h.b k x hx o
 . rcases EL hx with ⟨rfl,rfl⟩ | ⟨EG,hx⟩
   . exact absurd h2 (m f)
   . exact h.c k x hx f h2
theorem OWN.Amx{o}{b}(h:OWN o b){i}{u}(v)(j:b[i]?=some u)(f:v.state=u.state∨v.state≠1)(h2:v.cell=u.cell)(g:v.E9=u.E9):OWN o (b.set i v):=by
 intro k x hx a;rcases EL hx with ⟨rfl,rfl⟩ | ⟨EG,hx⟩
 . have:=h i u j (by rcases f with e | e;exact e ▸ a;exact absurd a e);rw[h2,g];exact this
 . exact h k x hx a
structure DW(C B S U T:Nat)(d:DX):Prop where
 k:DK C B S U T d
 o:OWN d.CP d.CN
 t:TL d.CN d.CR
def act(a:Ah):Nat:=(a.filter (λ u=>u.state==1)).length
def Ml(a:Ah):Aa:=a.map (·.state)
theorem JY{a J8}(h:J8.map core=a.map core):Ml J8=Ml a:=by
 have:=B3 (List.map (λ c:Int×Int×Int×Int×Int=>c.1)) h
 simpa [Ml,core,Function.comp_def] using this
theorem Avf{a J8}(h:Ml J8=Ml a):act J8=act a:=by
 have:∀a:Ah,act a=((Ml a).filter (· ==1)).length:=by
   intro a;unfold act Ml;rw[List.filter_map,Ct];rfl
 rw[this,this,h]
theorem Apt{C B S U T}{d}(h:DW C B S U T d)(a s k)(N:0<=a/\a<(T:Int))(j:¬(s=1∨s=2))(Q:d.CO.length<=90000):DU (Za d a s k) (λ r=>DW C B S U T {d with CP:=r.1,CQ:=r.2.1,CN:=r.2.2.1,CR:=r.2.2.2.1,CO:=r.2.2.2.2}/\r.1=d.CP/\Ml r.2.2.1=Ml d.CN/\r.2.2.1.length=d.CN.length/\r.2.2.2.1.length=d.CR.length/\r.2.2.2.2.length<=d.CO.length+4):=by
 have RX:=h.k.tl;have OS:=h.k.ul
 have b:0<=a/\a<(d.CR.length:Int):=AQ;unfold Za;refine tB (Fj _ k a 0 AQ) λ e z=>tI b λ t l m=>?_;have f:=h.k.to t m;have h2:TOK S U {t with state:=s}:=⟨f.pk,f.dr,λ E=>absurd E j⟩;have J9:DK C B S U T {d with CR:=d.CR.set a.toNat {t with state:=s},CO:=e}:=⟨h.k.n,h.k.k,h.k.s,h.k.ul,h.k.uo,by rw[Bv];exact RX,h.k.t32,EM h.k.to h2⟩;have fin:(t.state=1∨t.state=2)->DU (Option.bind (FZ {d with CR:=d.CR.set a.toNat {t with state:=s},CO:=e} t.CY) λ x=>some (x.1,x.2.1,x.2.2.1,d.CR.set a.toNat {t with state:=s},x.2.2.2)) (λ r=>DW C B S U T {d with CP:=r.1,CQ:=r.2.1,CN:=r.2.2.1,CR:=r.2.2.2.1,CO:=r.2.2.2.2}/\r.1=d.CP/\Ml r.2.2.1=Ml d.CN/\r.2.2.1.length=d.CN.length/\r.2.2.2.1.length=d.CR.length/\r.2.2.2.2.length<=d.CO.length+4):=by
   intro Ly;obtain ⟨u,g,H3,MN⟩:=h.t.a _ t l Ly;have i:=f.rb Ly;refine tB (PT J9 t.CY u i g ((h.k.uo u (Bt g)).Aco H3) AS) ?_;rintro ⟨V,W,Y,Z⟩ ⟨p,H,I,y,q,K,R⟩;dsimp only at*;refine tS ⟨⟨I,?_,?_⟩,y,?_,K,AT,AS⟩
   . dsimp only;rw[y];exact (h.o.Amx {u with DY:=-1,Du:=p} g (Or.inl rfl) rfl rfl).core q
   . exact (h.t.finish l Ly j AQ g H).core q
   . rw[JY q];unfold Ml;exact D2 g rfl
 refine tD (λ v=>tJ b (fin (Or.inl v))) λ v=>tD (λ w=>tJ b (fin (Or.inr w))) λ w=>tS ⟨⟨J9,h.o,h.t.drop l AQ j⟩,rfl,rfl,rfl,AT,AS⟩
theorem Aq0{C B S U T}{d}(h:DW C B S U T d)(a)(u)(ha:0<=a/\a<(U:Int))(l:d.CN[a.toNat]?=some u)(I:u.state=1):DU (QN d a) (λ r=>DW C B S U T {d with CP:=r.1,CQ:=r.2.1,CN:=r.2.2}/\Ml r.2.2=Ml d.CN):=by
 have OS:=h.k.ul;have g:0<=a/\a<(d.CN.length:Int):=AQ;have UH:=Bt l;have Hx:=h.k.uo u UH;have Ue:d.CT.length=S:=h.k.n.ns;unfold QN;refine tI g λ x hx _=>?_;obtain rfl:u=x:=by rw[l] at hx;exact Bf hx
 refine tD (λ _=>tS ⟨h,rfl⟩) λ K=>?_;obtain ⟨R,o2⟩:=h.o _ u l I;obtain ⟨o3,o4⟩:=o2 K;have z:=Hx.ac I;have a0:=Hx.tt;have y:((a.toNat:Nat):Int)=a:=AQ;refine tB (NZ h.k.k u.cell ⟨z,Hx.ce.2⟩ (by rw[R];intro e;have:=Bf e;omega)) ?_;rintro _ ⟨rfl,Sc⟩;refine tJ g (?_);simp only[Cp];refine tJ g ?_;dsimp only;have fin:∀v:KM,v.state=u.state->v.cell=u.E9->v.E9=-1->v.DY=u.DY->v.Eu=u.Eu->(v.Du=u.Du∨(u.Du=3/\v.Du=0))->(∀c∈v.Db,0<=c/\c<(C:Int))->v.Db.length<=1000->DW C B S U T {d with CP:=d.CP.set u.cell.toNat (-1),CQ:=d.CQ,CN:=d.CN.set a.toNat v}/\Ml (d.CN.set a.toNat v)=Ml d.CN:=by
   intro v Y Z v3 v4 v5 v6 v7 v8;refine ⟨⟨⟨h.k.n,Sc,h.k.s,by simpa using OS,EM h.k.uo ⟨by rw[v5];exact Hx.hm,by rw[Z];omega,by rw[v3];omega,by rw[v4];exact Hx.tk,v7,v8,λ _=>by rw[Z];omega⟩,h.k.tl,h.k.t32,h.k.to⟩,?_,?_⟩,D2 l Y⟩
   . intro i w f Q;rcases EL f with ⟨rfl,rfl⟩ | ⟨EG,f⟩
     . rw[Z,v3];refine ⟨?_,λ E=>absurd rfl E⟩;rw[IS AQ,o3,y]
     . have a1:=h.k.uo w (Bt f);obtain ⟨V,p2⟩:=h.o i w f Q;have q1:u.cell.toNat≠w.cell.toNat:=by
         intro e;rw[<-e,R] at V;have:=Bf V;omega
       refine ⟨by rw[IS q1];exact V,λ E=>?_⟩;obtain ⟨W,p4⟩:=p2 E;refine ⟨?_,p4⟩;rw[IS];exact W;intro e;rw[<-e,R] at W;have:=Bf W;omega
   . refine ⟨λ j t ht N=>?_,λ i w f m=>?_,λ i w f h1 h2=>?_,λ i w f m=>by rcases EL f with ⟨rfl,rfl⟩ | ⟨EG,f⟩;exact v3;exact h.t.d i w f m⟩
     . obtain ⟨w,f,p,w2⟩:=h.t.a j t ht N;by_cases e:a.toNat=t.CY.toNat
       . rw[<-e,l] at f;cases f;exact ⟨v,by dsimp only;rw[<-e];exact gs AQ,Y.trans p,v4.trans w2⟩
       . exact ⟨w,by dsimp only;rw[IS e];exact f,p,w2⟩
     . rcases EL f with ⟨rfl,rfl⟩ | ⟨EG,f⟩
       . obtain ⟨p,w2,w3⟩:=h.t.b _ u l AQ;refine ⟨Y.trans p,AQ,?_⟩;rw[v4];exact w3
       . exact h.t.b i w f m
     . rcases EL f with ⟨rfl,rfl⟩ | ⟨EG,f⟩
       . have:=h.t.c _ u l I AQ;omega
       . exact h.t.c i w f h1 h2
 have q:=fin {u with cell:=u.E9,E9:=-1} rfl rfl rfl rfl rfl (Or.inl rfl) Hx.rt Hx.rl;refine tD (λ hp=>tD (λ m=>tI (by have:=Hx.hm;omega) λ s _ _=>tD (λ _=>tJ g ?_) λ _=>tS q) λ _=>tS q) λ _=>tS q;refine tB (XD h.k.n u.E9 AQ) λ rt H=>tS ?_;exact fin {u with cell:=u.E9,E9:=-1,Du:=0,Db:=rt} rfl rfl rfl rfl rfl (Or.inr ⟨hp,rfl⟩) H.2 AS
theorem Apn{C B S U T}{d}(h:DW C B S U T d)(a)(u)(ha:0<=a/\a<(U:Int))(f:d.CN[a.toNat]?=some u)(he:d.CO.length<=80000):DU (QJ d a) (λ r=>DW C B S U T {d with CP:=r.1,CQ:=r.2.1,CN:=r.2.2.1,CR:=r.2.2.2.1,CO:=r.2.2.2.2}/\Ml r.2.2.1=Ml d.CN/\r.2.2.2.2.length<=d.CO.length+10):=by
 have OS:=h.k.ul;have RX:=h.k.tl
 have N:0<=a/\a<(d.CN.length:Int):=AQ;have Hx:=h.k.uo u (Bt f);have a1:=Hx.tk;unfold QJ;refine tI N λ x hx _=>?_;obtain rfl:u=x:=by rw[f] at hx;exact Bf hx
 refine tC (λ _=>tJ N ?_) λ _=>tS ⟨h,rfl,AR⟩;dsimp only;have Ad0:∀v:KM,v.state=u.state->v.cell=u.cell->v.E9=u.E9->v.DY=u.DY->v.Eu=u.Eu->(∀c∈v.Db,0<=c/\c<(C:Int))->v.Db.length<=1000->Vt C S T v:=λ v v1 v2 v3 v4 v5 v6 v7=>Hx.same v v5 v2 v3 v4 v1 v6 v7;have w0:DW C B S U T {d with CN:=d.CN.set a.toNat {u with DG:=false}}:=
   ⟨h.k.N4 _ _ (Ad0 {u with DG:=false} rfl rfl rfl rfl rfl Hx.rt Hx.rl),h.o.core (D2 f rfl),h.t.core (D2 f rfl)⟩
 have s0:Ml (d.CN.set a.toNat {u with DG:=false})=Ml d.CN:=D2 f rfl;refine tD (λ _=>tS ⟨w0,s0,AR⟩) λ Y=>?_;obtain ⟨b1,b2,t,K,b4,W⟩:=h.t.b _ u f AQ;have l:=h.k.to t (Bt K);have H:0<=u.DY/\u.DY<(d.CR.length:Int):=AQ;refine tD (λ hp=>?_) λ _=>tD (λ hp=>?_) λ _=>tS ⟨w0,s0,AR⟩
 . refine tI H λ y R _=>tB (Fj _ 3 u.DY a AS) λ e q=>tJ H ?_;obtain rfl:t=y:=by rw[K] at R;exact Bf R
   have E:=q.2;dsimp only at E;simp only[Cp];have k1:DK C B S U T {d with CN:=d.CN.set a.toNat {u with DG:=false,Du:=2},CR:=d.CR.set u.DY.toNat {t with state:=2},CO:=e}:=
     ⟨h.k.n,h.k.k,h.k.s,by simpa using OS,EM h.k.uo (Ad0 {u with DG:=false,Du:=2} rfl rfl rfl rfl rfl Hx.rt Hx.rl),by simpa using RX,h.k.t32,EM h.k.to ⟨l.pk,l.dr,λ _=>l.rb W⟩⟩
   refine tB (Pr k1 a t.drop {u with DG:=false,Du:=2} ha (gs AQ) (Hx.Aco b1) l.dr AS) ?_;rintro ⟨x1,x2,x3,x4⟩ ⟨q1,q2,m,q4,q5⟩;dsimp only at*;refine tS ⟨⟨q1,?_,?_⟩,?_,AS⟩
   . dsimp only;rw[q2];exact (h.o.Amx {u with DG:=false,Du:=2} f (Or.inl rfl) rfl rfl).core m
   . refine TL.core ?_ m;have:=h.t.on K W (s:=2) (Or.inr rfl);refine ⟨λ j z hz a0=>?_,λ i w g Q=>?_,λ i w g I V=>?_,λ i w g Y=>by rcases EL g with ⟨rfl,rfl⟩ | ⟨EG,g⟩;exact this.d _ u f Y;exact this.d i w g Y⟩
     . obtain ⟨w,g,I,V⟩:=this.a j z hz a0;by_cases e:a.toNat=z.CY.toNat
       . rw[<-e,f] at g;cases g;exact ⟨{u with DG:=false,Du:=2},by rw[<-e];exact gs (Fh f),I,V⟩
       . exact ⟨w,by rw[IS e];exact g,I,V⟩
     . rcases EL g with ⟨rfl,rfl⟩ | ⟨EG,g⟩
       . obtain ⟨I,V,w3⟩:=this.b _ u f Q;exact ⟨I,Or.inr rfl,w3⟩
       . exact this.b i w g Q
     . rcases EL g with ⟨rfl,rfl⟩ | ⟨EG,g⟩
       . dsimp only;omega
       . exact this.c i w g I V
   . rw[JY m];exact D2 f rfl
 . refine tI H λ y R _=>tB (Fj _ 4 u.DY a AS) λ e q=>?_;obtain rfl:t=y:=by rw[K] at R;exact Bf R
   have E:=q.2;dsimp only at E;have k1:DK C B S U T {d with CN:=d.CN.set a.toNat {u with DG:=false},CR:=d.CR.set u.DY.toNat {t with state:=3},CO:=e}:=
     ⟨h.k.n,h.k.k,h.k.s,by simpa using OS,EM h.k.uo (Ad0 {u with DG:=false} rfl rfl rfl rfl rfl Hx.rt Hx.rl),by simpa using RX,h.k.t32,EM h.k.to ⟨l.pk,l.dr,λ hh=>by dsimp only at hh;omega⟩⟩
   refine tB (PT k1 a {u with DG:=false} ha (gs AQ) (Hx.Aco b1) AS) ?_;rintro ⟨x1,x2,x3,x4⟩ ⟨p,Z,q1,q2,m,q4,q5⟩;dsimp only at*;rw[Cp] at m;have q6:(d.CN.set a.toNat {u with DG:=false,DY:=-1,Du:=p}).map core=(d.CN.set a.toNat {u with DY:=-1,Du:=p}).map core:=by
     rw[BJ,BJ];rfl
   refine tS ⟨⟨q1,?_,?_⟩,?_,AS⟩
   . dsimp only;rw[q2];exact (h.o.Amx {u with DG:=false,DY:=-1,Du:=p} f (Or.inl rfl) rfl rfl).core m
   . exact (h.t.finish K W (s:=3) AQ b4 f Z).core (m.trans q6)
   . rw[JY m];exact D2 f rfl
theorem Bkh{e}{i}{u v}(b:e[i]?=some u)(j:u.state=1)(h2:v.state≠1):act (e.set i v)+1=act e:=by
 induction e generalizing i with
 | nil=>simp at b
 | cons a l k=>
   cases i with
   | zero=>
     simp only[BE,Bo] at b;subst b;have f:(a.state==1)=true:=by simp[j]
     have g:(v.state==1)=false:=by simp[h2]
     simp[act,Co,f,g]
   | succ i=>
     have:=k b;unfold act at this ⊢;simp only[BR,Co];split
     . simp only[Br];omega
     . exact this
theorem Ag0{C B S U T}{d}(h:DW C B S U T d)(he:d.CO.length<=1000)(hl:d.DN.length<=1000):DU (MQ d) (λ r=>DW C B S U T {d with CP:=r.1,CQ:=r.2.1,CN:=r.2.2.1,CO:=r.2.2.2.1,DN:=r.2.2.2.2}/\r.2.2.2.1.length<=d.CO.length+16/\r.2.2.2.2.length<=d.DN.length+8/\((∀x∈d.DN,0<=x/\x<(U:Int))->∀x∈r.2.2.2.2,0<=x/\x<(U:Int))):=by
 have h8:=h.k.k.u8;unfold MQ;refine tB (P:=λ e=>DW C B S U T {d with CP:=e.2.2.2.1,CQ:=e.2.2.2.2.1,CN:=e.1,CO:=e.2.1,DN:=e.2.2.1}/\e.2.1.length<=d.CO.length+16/\e.2.2.1.length<=d.DN.length+8/\((∀x∈d.DN,0<=x/\x<(U:Int))->∀x∈e.2.2.1,0<=x/\x<(U:Int))) (tL (λ s=>DW C B S U T {d with CP:=s.2.2.2.1,CQ:=s.2.2.2.2.1,CN:=s.1,CO:=s.2.1,DN:=s.2.2.1}/\(s.2.1.length:Int)<=d.CO.length+2*s.2.2.2.2.2/\(s.2.2.1.length:Int)<=d.DN.length+s.2.2.2.2.2/\((∀x∈d.DN,0<=x/\x<(U:Int))->∀x∈s.2.2.1,0<=x/\x<(U:Int))/\0<=s.2.2.2.2.2/\s.2.2.2.2.2<=(U:Int)) (λ s=>((U:Int) - s.2.2.2.2.2).toNat) ⟨h,AR,AR,λ a=>a,AR,AR⟩ ?_) (λ ⟨x1,x2,x3,x4,x5,x6⟩ a=>tS a);rintro ⟨us,e,V,o,q,i⟩ ⟨f,k2,k3,R,k5,k6⟩;dsimp only at*;have OS:us.length=U:=f.k.ul;refine tD (λ Dv=>?_) λ _=>tS ⟨f,AR,AR,R⟩;rw[C2 AQ AQ];have stay:(DW C B S U T {d with CP:=o,CQ:=q,CN:=us,CO:=e,DN:=V}/\(e.length:Int)<=d.CO.length+2*(i+1)/\(V.length:Int)<=d.DN.length+(i+1)/\((∀x∈d.DN,0<=x/\x<(U:Int))->∀x∈V,0<=x/\x<(U:Int))/\0<=i+1/\i+1<=(U:Int))/\((U:Int) - (i+1)).toNat<((U:Int) - i).toNat:=⟨⟨f,AQ,AQ,R,AQ,AQ⟩,AQ⟩;refine tI AQ λ u H UH=>tD (λ hs=>tC (λ _=>tD (λ hp=>tD (λ a3=>?_) λ _=>tS stay) λ _=>tS stay) λ _=>tS stay) λ _=>tS stay;have a2:u.DY<0:=by
   refine Int.not_le.1 λ a=>?_;have:=(f.t.b _ u H a).2.1;omega
 refine tB (L9 f.k i AQ AS) ?_;rintro ⟨x1,x2,x3,x4⟩ ⟨g,q2,q3,q4,q5⟩;dsimp only at*;refine tG q4 λ _=>tI AQ λ v hv I=>?_;obtain ⟨u2,MN,hc⟩:=Lk q3 hv;rw[H] at MN;cases MN;obtain ⟨c1,E,c3,c4,c5⟩:=Ny hc;have m:=g.uo v I;have W:=(f.o _ u H hs).1;have l:=(f.k.uo u UH);have a0:=l.ac hs;have a1:((i.toNat:Nat):Int)=i:=AQ;have hk:=g.k;refine tB (NZ hk v.cell (by have:=l.ce;omega) (by rw[q2,<-E,W];intro e;have:=Bf e;omega)) ?_;rintro _ ⟨rfl,Sc⟩;refine tJ AQ ?_;simp only[Cp];have hg:(x3.set i.toNat {v with cell:=-1,Db:=[]})[i.toNat]?=some {v with cell:=-1,Db:=[]}:=gs AQ;refine tB (Y8 _ i _ AS (by rw[Bv];omega) hg) ?_;rintro ⟨y1,y2⟩ ⟨z,Q⟩;dsimp only at Q;rw[Cp] at z;subst z;refine tG AQ λ _=>tS ⟨⟨⟨⟨g.n,Sc,g.s,by simpa using g.ul,EM g.uo ⟨AS,AS,by dsimp only;have:=m.tt;omega,by dsimp only;have:=m.tk;omega,all_nil,AT,λ a=>by dsimp only at a;omega⟩,g.tl,g.t32,g.to⟩,?_,?_⟩,AS,by dsimp only;rw[List.length_append];simp only[List.length_cons,List.length_nil];omega,λ a=>Es (R a) AQ,AS,AS⟩,AS⟩
 . intro j w K y;rcases EL K with ⟨rfl,rfl⟩ | ⟨EG,K⟩
   . dsimp only at y;omega
   . obtain ⟨w0,p,N⟩:=Lk q3 K;obtain ⟨d1,d2,d3,d4,d5⟩:=Ny N;have a4:=f.k.uo w0 (Bt p);obtain ⟨Y,p2⟩:=f.o j w0 p (d1.trans y);rw[<-d2,<-d3,q2];have q7:v.cell.toNat≠w0.cell.toNat:=by
       intro e;rw[<-e,<-E,W] at Y;have:=Bf Y;omega
     refine ⟨by rw[IS q7];exact Y,λ a=>?_⟩;obtain ⟨Z,p4⟩:=p2 a;refine ⟨?_,p4⟩;rw[IS];exact Z;intro e;rw[<-e,<-E,W] at Z;have:=Bf Z;omega
 . have t2:=(f.t.core q3);exact t2.Amy hv AQ AS (by dsimp only;intro a;omega) (by dsimp only;intro a;omega)
theorem Y5{C B S U T}{d}(h:DW C B S U T d)(R:d.CO.length<=10000):DU (Jl d) (λ r=>DW C B S U T {d with CP:=r.1,CQ:=r.2.1,CN:=r.2.2.1,CO:=r.2.2.2}/\r.2.2.2.length<=d.CO.length+16):=by
 have Q:=h.k.k.u8;unfold Jl;refine tB (P:=λ e=>DW C B S U T {d with CP:=e.2.2.1,CQ:=e.2.2.2.1,CN:=e.1,CO:=e.2.1}/\e.2.1.length<=d.CO.length+16) (tL (λ s=>DW C B S U T {d with CP:=s.2.2.1,CQ:=s.2.2.2.1,CN:=s.1,CO:=s.2.1}/\(s.2.1.length:Int)<=d.CO.length+2*s.2.2.2.2/\0<=s.2.2.2.2/\s.2.2.2.2<=(U:Int)) (λ s=>((U:Int) - s.2.2.2.2).toNat) ⟨h,AR,AR,AR⟩ ?_) (λ ⟨H,I,K,N,x5⟩ g=>tS g);rintro ⟨m,e,o,q,i⟩ ⟨a,W,Y,Z⟩;dsimp only at*;have OS:m.length=U:=a.k.ul;refine tD (λ Dv=>?_) λ _=>tS ⟨a,AR⟩;rw[C2 AQ AQ];have stay:(DW C B S U T {d with CP:=o,CQ:=q,CN:=m,CO:=e}/\(e.length:Int)<=d.CO.length+2*(i+1)/\0<=i+1/\i+1<=(U:Int))/\((U:Int) - (i+1)).toNat<((U:Int) - i).toNat:=⟨⟨a,AQ,AQ,AQ⟩,AQ⟩;refine tI AQ λ u j UH=>tB (u7 a.k u (a.k.uo u UH)) ?_;rintro ⟨x,ok⟩ Ru;refine tC (λ n=>tD (λ _=>tS stay) λ _=>tD (λ p=>tJ AQ ?_) λ _=>tS stay) λ _=>tS stay;obtain ⟨w,V⟩:=Ru n;have f:u.DY<0:=by
   refine Int.not_le.1 λ g=>?_;have:=(a.t.b _ u j g).2.1;omega
 have Hx:=a.k.uo u UH;have y:=a.k.N4 i.toNat {u with Du:=3} (Hx.same _ rfl rfl rfl rfl rfl Hx.rt Hx.rl);refine tB (Pr y i u.Eu {u with Du:=3} AQ (gs (Fh j)) (Hx.Aco w) ⟨p,Hx.hm.2⟩ AS) ?_;rintro ⟨H,I,K,N⟩ ⟨z,E,l,q4,q5⟩;dsimp only at*;refine tS ⟨⟨⟨z,?_,?_⟩,AS,AS,AS⟩,AS⟩
 . dsimp only;rw[E];exact (a.o.Amx {u with Du:=3} j (Or.inl rfl) rfl rfl).core l
 . have:=f;exact (a.t.Amy j f (v:={u with Du:=3}) f (by intro _ g;dsimp only at g;omega) (a.t.d _ u j)).core l
theorem TL.Bjw{a}{b}(h:TL a b){j}{t}{s}(q:b[j]?=some t)(o:t.state=1∨t.state=2)(n:¬(s=1∨s=2)){i:Nat}{u}(v)(m:t.CY=(i:Int))(e:a[i]?=some u)(r:v.DY<0)(k:v.state=1->¬(v.Du=1∨v.Du=2))(l:v.state=0->v.E9=-1):TL (a.set i v) (b.set j {t with state:=s}):=by
 have f:=h.finish (p:=0) q o n m e (Or.inl rfl);have h2:(a.set i {u with DY:=-1,Du:=0})[i]?=some {u with DY:=-1,Du:=0}:=gs (Fh e);have g:=f.Amy h2 AS r k l;rwa[Cp] at g
theorem Bho{e}{i}{u v}(b:e[i]?=some u)(j:u.state≠1)(h2:v.state≠1):act (e.set i v)=act e:=by
 induction e generalizing i with
 | nil=>simp at b
 | cons a l k=>
   cases i with
   | zero=>
     simp only[BE,Bo] at b;subst b;have f:(a.state==1)=false:=by simp[j]
     have g:(v.state==1)=false:=by simp[h2]
     simp[act,Co,f,g]
   | succ i=>
     have:=k b;unfold act at this ⊢;simp only[BR,Co];split
     . simp only[Br];omega
     . exact this
def Aqt(C B S U T:Nat)(d:DX)(e:Ak)(c:Ac)(b p:Aa)(o:Aa)(q:Ab)(f:Ah)(a:Ao):Prop:=DW C B S U T {d with CP:=o,CQ:=q,closed:=c,Dm:=b,CZ:=p,CN:=f,CR:=a,CO:=e}
theorem Aij{C B S U T}{d}(h:DW C B S U T d)(l)(hl:l.length<=8)(hr:∀x∈l,0<=x/\x<(U:Int))(he:d.CO.length<=20000):DU (Pq d l) (λ r=>Aqt C B S U T d r.2.2.2.2.2.2.2 r.2.2.1 r.2.2.2.1 r.2.2.2.2.1 r.1 r.2.1 r.2.2.2.2.2.1 r.2.2.2.2.2.2.1/\r.2.2.2.2.2.2.2.length<=d.CO.length+500/\(act r.2.2.2.2.2.1<=act d.CN)/\(l≠[]->(∀x∈l,∃u,d.CN[x.toNat]?=some u/\u.state=1)->act r.2.2.2.2.2.1<act d.CN)):=by
 have h8:=h.k.k.u8;have NJ:=h.k.k.OZ
 unfold Pq;refine tB (P:=λ e=>Aqt C B S U T d e.2.2.1 e.2.2.2.1 e.2.2.2.2.1 e.2.2.2.2.2.1 e.2.2.2.2.2.2.1 e.2.2.2.2.2.2.2.1 e.1 e.2.1/\e.2.2.1.length<=d.CO.length+500/\(act e.1<=act d.CN)/\(l≠[]->(∀x∈l,∃u,d.CN[x.toNat]?=some u/\u.state=1)->act e.1<act d.CN))
   (tL (λ s=>Aqt C B S U T d s.2.2.1 s.2.2.2.1 s.2.2.2.2.1 s.2.2.2.2.2.1 s.2.2.2.2.2.2.1 s.2.2.2.2.2.2.2.1 s.1 s.2.1/\(s.2.2.1.length:Int)<=d.CO.length+55*s.2.2.2.2.2.2.2.2/\act s.1<=act d.CN/\(s.2.2.2.2.2.2.2.2=0->s.1=d.CN)/\(0<s.2.2.2.2.2.2.2.2->(∀x∈l,∃u,d.CN[x.toNat]?=some u/\u.state=1)->act s.1<act d.CN)/\0<=s.2.2.2.2.2.2.2.2/\s.2.2.2.2.2.2.2.2<=(l.length:Int)) (λ s=>((l.length:Int) - s.2.2.2.2.2.2.2.2).toNat) ⟨h,AR,Bk _,λ _=>rfl,λ a=>by dsimp only at a;omega,AR,AR⟩ ?_) (λ ⟨x1,x2,I,x4,x5,x6,x7,x8,x9⟩ a=>tS a)
 rintro ⟨us,ts,e,c,b,p,o,q,i⟩ ⟨j,k2,k3,k4,k5,k6,k7⟩;dsimp only at*;have OS:us.length=U:=j.k.ul;have RX:ts.length=T:=j.k.tl;refine tD (λ Dv=>?_) λ a7=>tS ⟨j,AR,k3,λ EG=>k5 (by have:0<l.length:=Ca.2 EG;omega)⟩;rw[C2 (n:=i+1) AQ AQ];refine tI AQ λ x hx Y=>?_;have KL:=hr x Y;refine tI AQ λ u hu UH=>tB (L9 j.k x KL AS) ?_;rintro ⟨x1,x2,I,x4⟩ ⟨f,q2,q3,q4,q5⟩;dsimp only at*;refine tB (Fj _ 6 x 0 AS) λ e1 a0=>tG q4 λ _=>tI AQ λ v H a4=>?_;have a1:=a0.2;dsimp only at a1;obtain ⟨u2,MN,hc⟩:=Lk q3 H;rw[hu] at MN;cases MN;obtain ⟨c1,c2,c3,c4,c5⟩:=Ny hc;have g:=f.uo v a4;have m:0<=x/\x<(I.length:Int):=AQ;refine tJ m ?_;simp only[Cp];refine tJ m ?_;refine tJ m ?_;have hk:=f.k;refine tB (W1 hk x AQ) ?_;rintro ⟨w,err⟩ ⟨a8,a9,a5⟩;dsimp only at*;refine tB (P:=λ r=>SG C B ⟨r.2.1,r.2.2.1,r.2.2.2.1⟩/\r.1.length<=e1.length+48) (tL (λ s=>SG C B ⟨s.2.1,s.2.2.1,s.2.2.2.1⟩/\(s.1.length:Int)<=e1.length+s.2.2.2.2/\0<=s.2.2.2.2/\s.2.2.2.2<=(w.length:Int)) (λ s=>((w.length:Int) - s.2.2.2.2).toNat) ⟨j.k.s,AR,AR,AR⟩ ?_) ?_
 . rintro ⟨e',c',b',p',k⟩ ⟨Z,m2,m3,m4⟩;dsimp only at*;refine tD (λ Sb=>?_) λ _=>tS ⟨Z,AR⟩;rw[C2 (n:=k+1) AQ AQ];refine tI AQ λ y _ hy=>tB (Q1 _ y x Z (by have:=a5 y hy;omega)) λ s hs=>tB (Fj _ 7 y x AS) λ e3 z=>tS ?_;have E:=z.2;dsimp only at E;exact ⟨⟨hs.1,AS,AS,AS⟩,AS⟩
 rintro ⟨e',c',b',p',_⟩ ⟨Z,m2⟩;dsimp only at m2;refine tJ m ?_;dsimp only;have V:∀tk:Int,-1<=tk->tk<(T:Int)->Vt C S T {v with state:=2,Eu:=-2,DG:=false,Db:=[],DY:=tk}:=λ tk K h2=>⟨AS,g.ce,g.tt,⟨K,h2⟩,all_nil,AT,λ a=>by dsimp only at a;omega⟩;have ho:∀tk:Int,OWN x1 (I.set x.toNat {v with state:=2,Eu:=-2,DG:=false,Db:=[],DY:=tk}):=λ tk=>by
   rw[q2];exact (j.o.core q3).Amx _ H (Or.inr AS) rfl rfl
 have Bsh:∀tk:Int,act (I.set x.toNat {v with state:=2,Eu:=-2,DG:=false,Db:=[],DY:=tk})+(if u.state=1 then 1 else 0)=act us:=λ tk=>by
   rw[<-Avf (JY q3)];split
   . rename_i e;exact Bkh H AQ AS
   . rename_i e;exact Bho H AQ AS
 have Bdz:∀tk:Int,act (I.set x.toNat {v with state:=2,Eu:=-2,DG:=false,Db:=[],DY:=tk})<=act d.CN/\((∀x∈l,∃u,d.CN[x.toNat]?=some u/\u.state=1)->act (I.set x.toNat {v with state:=2,Eu:=-2,DG:=false,Db:=[],DY:=tk})<act d.CN):=λ tk=>by
   have K:=Bsh tk;refine ⟨by split at K<;>omega,λ FE=>?_⟩;by_cases FU:i=0
   . have a3:=k4 FU;obtain ⟨u',R,a2⟩:=FE x Y;rw[<-a3,hu] at R;obtain rfl:=Bf R;rw[if_pos a2] at K;omega
   . have:=k5 AQ FE;split at K<;>omega
 refine tD (λ h0=>?_) λ hn=>?_
 . obtain ⟨b1,b2,t,b3,b4,b5⟩:=j.t.b _ u hu AQ;rw[c4] at b3;refine tI (by have:=g.tk;omega) λ y hy a6=>?_;obtain rfl:t=y:=by rw[b3] at hy;exact Bf hy
   refine tB (Fj _ 5 v.DY 0 AS) λ e3 z=>tS ?_;have E:=z.2;dsimp only at E;have Q:=j.k.to t a6;have N:=Bdz (-1);refine ⟨⟨⟨⟨f.n,f.k,Z,by simpa using f.ul,EM f.uo (V (-1) AQ AQ),by simpa using f.tl,f.t32,EM f.to ⟨Q.pk,Q.dr,λ a=>by dsimp only at a;omega⟩⟩,ho (-1),?_⟩,AS,N.1,λ a=>by dsimp only at a;omega,λ _=>N.2,AS,AS⟩,AS⟩;exact (j.t.core q3).Bjw b3 b5 AQ _ b4 H AS (by intro a;dsimp only at a;omega) (by intro a;dsimp only at a;omega)
 . have W:v.DY<0:=AQ;have N:=Bdz v.DY;refine tS ⟨⟨⟨⟨f.n,f.k,Z,by simpa using f.ul,EM f.uo (V v.DY g.tk.1 g.tk.2),f.tl,f.t32,f.to⟩,ho v.DY,?_⟩,AS,N.1,λ a=>by dsimp only at a;omega,λ _=>N.2,AS,AS⟩,AS⟩;exact (j.t.core q3).Amy H W W (by intro a;dsimp only at a;omega) (by intro a;dsimp only at a;omega)
def W4(C B S U T:Nat)(d:DX)(k:Nat)(r:Aa×Ab×Ah×Ak):Prop:=
 DW C B S U T {d with CP:=r.1,CQ:=r.2.1,CN:=r.2.2.1,CO:=r.2.2.2}/\r.1=d.CP/\Ml r.2.2.1=Ml d.CN/\r.2.2.2.length<=d.CO.length+k
theorem Apl{C B S U T}{d}(h:DW C B S U T d)(a s)(u)(g:0<=a/\a<(U:Int))(f:d.CN[a.toNat]?=some u)(j:u.state=1)(l:0<=s/\s<(S:Int))(i:d.CO.length<=100000):DU (GJ d a s) (W4 C B S U T d 2):=by
 refine tW (Pr h.k a s u g f ((h.k.uo u (Bt f)).Aco j) l i) ?_;rintro ⟨q,r,v,w⟩ ⟨m,b,e,p,n⟩;dsimp only at b;exact ⟨⟨m,by dsimp only;rw[b];exact h.o.core e,h.t.core e⟩,b,JY e,n⟩
theorem Al4{C B S U T}{d}(h:DW C B S U T d)(a)(f:0<=a/\a<(U:Int))(g:d.CO.length<=1000000):DU (GR d a) (λ r=>W4 C B S U T d 1 r/\r.2.2.1.map core=d.CN.map core):=by
 refine tW (L9 h.k a f g) ?_;rintro ⟨m,n,p,q⟩ ⟨i,e,b,l,j⟩;dsimp only at e;exact ⟨⟨⟨i,by dsimp only;rw[e];exact h.o.core b,h.t.core b⟩,e,JY b,j⟩,b⟩
theorem Ath{C B S U T}{d}(h:DW C B S U T d)(a)(u)(g:0<=a/\a<(U:Int))(b:d.CN[a.toNat]?=some u)(l:u.state=1)(m:u.DY<0)(i:d.CO.length<=100000 - 10):DU (FZ d a) (W4 C B S U T d 3):=by
 refine tW (PT h.k a u g b ((h.k.uo u (Bt b)).Aco l) i) ?_;rintro ⟨w,x,y,z⟩ ⟨p,r,n,e,f,s,q⟩;dsimp only at e;refine ⟨⟨n,?_,?_⟩,e,?_,q⟩
 . dsimp only;rw[e];exact (h.o.Amx {u with DY:=-1,Du:=p} b (Or.inl rfl) rfl rfl).core f
 . exact (h.t.Amy b m (v:={u with DY:=-1,Du:=p}) AS (by intro _ j;dsimp only at j;omega) (h.t.d _ u b)).core f
 . rw[JY f];exact D2 b rfl
theorem filter_lt{l:Aa}{x}(h:l[0]?=some x):(l.filter (· != x)).length<l.length:=by
 cases l with
 | nil=>simp at h
 | cons a l=>
   simp only[BE,Bo] at h;subst h;have:=List.length_filter_le (· != a) l;simp[Co];omega
theorem Ag4{C B S U T}{d}(h:DK C B S U T d)(he:d.CO.length<=20000):DU (MU d) (λ r=>SG C B ⟨r.1,r.2.1,r.2.2.1⟩/\r.2.2.2.length<=d.CO.length+24):=by
 have Ue:d.CT.length=S:=h.n.ns;have h6:=h.n.s6;have h8:=h.k.u8;have OS:=h.ul;have RX:=h.tl;have RY:=h.t32;have NJ:=h.n.OZ;have E:=h.s.pl;have Bjp:=h.s.b24;have Y:=h.n.bc
 unfold MU;refine tB (P:=λ r=>SG C B ⟨r.1,r.2.1,r.2.2.1⟩/\r.2.2.2.length<=d.CO.length+24) (tL (λ s=>SG C B ⟨s.2.1,s.2.2.1,s.2.2.2⟩/\s.1.length+s.2.2.2.length<=d.CO.length+B) (λ s=>s.2.2.2.length) ⟨h.s,by have:d.CZ.length<=B:=E;dsimp only;omega⟩ ?_) (λ r hr=>tS hr);rintro ⟨e,c,b,p⟩ ⟨m,k2⟩;dsimp only at k2;refine tG AQ λ _=>tB (P:=λ r=>r.1.length=S/\r.2.1.length<=U/\∀x∈r.2.1,x.length<=1000) (tL (λ s=>(s.1.length=S/\(s.2.1.length:Int)<=s.2.2/\∀x∈s.2.1,x.length<=1000)/\0<=s.2.2/\s.2.2<=(U:Int)) (λ s=>((U:Int) - s.2.2).toNat) ⟨⟨by simp[Ue],AU,all_nil⟩,AR,AR⟩ ?_) ?_
 . rintro ⟨us,V,i⟩ ⟨⟨o,R,q⟩,m4,m5⟩;dsimp only at*;refine tD (λ Dv=>?_) λ _=>tS ⟨o,AR,q⟩;rw[C2 (n:=i+1) AQ AQ];refine tI AQ λ u hu UH=>tB (KJ u) λ f _=>tC (λ _=>?_) λ _=>tS ⟨⟨⟨o,AR,q⟩,AR,AR⟩,AR⟩;have Hx:=h.uo u UH;refine tG AQ λ _=>?_;have Q:∀v:Ac,v.length=S->DU (C9 (Lj d u) (v,0)) (λ r=>r.1.length=S):=by
     intro v hv;refine tL (λ s=>s.1.length=S/\0<=s.2/\s.2<=2) (λ s=>(2 - s.2).toNat) ⟨hv,AR,AR⟩ ?_;rintro ⟨v,j⟩ ⟨a,p2,p3⟩;dsimp only at a;refine tD (λ Sb=>tD (λ _=>?_) λ _=>tS a) λ _=>tS a;rw[C2 (n:=j+1) AQ AQ];have Z:=Hx.ce;have a0:=Hx.tt
     refine tI AW λ x _ hx=>?_;have KL:x<(C:Int):=by
       simp only[BU,BN,or_false] at hx;rcases hx with rfl | rfl<;>omega
     refine tD (λ _=>tS AR) λ _=>tB (Md h.n x AQ) ?_;rintro ⟨y1,y2⟩ z;refine tD (λ _=>tI (by rcases z with z | z<;>omega) λ _ _ _=>tS AU) λ _=>tS AR
   refine tD (λ h0=>tI (by have:=Hx.hm;omega) λ _ _ _=>tB (Q _ (by simpa using o)) ?_) λ _=>tB (Q _ o) ?_;all_goals
     rintro ⟨x,j⟩ hx;exact tS ⟨⟨⟨hx,by dsimp only;rw[List.length_append];simp only[List.length_cons,List.length_nil];omega,Es q Hx.rl⟩,AR,AR⟩,AR⟩
 . rintro ⟨us,V,_⟩ ⟨o,R,q⟩;dsimp only at R;refine tB (P:=λ r=>r.1.length=S) (tL (λ s=>s.1.length=S/\0<=s.2/\s.2<=(S:Int)) (λ s=>((S:Int) - s.2).toNat) ⟨o,AR,AR⟩ ?_) ?_
   . rintro ⟨v,i⟩ ⟨a,p2,p3⟩;refine tD (λ Dv=>tB (P:=λ r=>r.1.length=S) (tL (λ s=>s.1.length=S/\0<=s.2/\s.2<=(T:Int)) (λ s=>((T:Int) - s.2).toNat) ⟨a,AR,AR⟩ ?_) ?_) λ _=>tS a
     . rintro ⟨v,j⟩ ⟨I,r2,r3⟩;dsimp only at I;refine tD (λ Sb=>?_) λ _=>tS I;rw[C2 (n:=j+1) AQ AQ];refine tI AQ λ _ _ _=>tC (λ _=>tS AU) λ _=>tI AQ λ t _ _=>tB (Zu t i) λ _ _=>tS AU
     . rintro ⟨v,j⟩ I;rw[C2 (n:=i+1) AQ AQ];exact tS AR
   . rintro ⟨v,_⟩ a;refine tB (Ajj h.n ⟨c,b,p⟩ m h.k V v AQ q a) λ f hf=>tC (λ W=>?_) λ _=>tS ⟨m,AR⟩;have EG:=hf W;have K:0<p.length:=Ca.2 EG;refine tI AQ λ x hx H=>?_;have KL:=m.pr x H;have hd:=h.Bcl ⟨c,b,p⟩ m;refine tB (Ag2 (hd.Am6 e) x AQ) λ g _=>tC (λ _=>tB (Q1 _ x (-1) m AQ) λ s N=>tB (Fj _ 7 x (-1) AS) λ e2 w=>tS ?_) λ _=>tS ⟨m,AR⟩;have y:=w.2;dsimp only at y;have Bz9:=filter_lt (x:=x) (l:=p) (by simpa using hx);have QU:=N.2;dsimp only at QU;exact ⟨⟨N.1,by dsimp only;rw[QU];omega⟩,by dsimp only;rw[QU];exact Bz9⟩
theorem DK.re{C B S U T}{d}(h:DK C B S U T d)(g)(f)(e)(p)(l s):DK C B S U T {d with C6:=g,DV:=f,CO:=e,Fy:=p,DN:=l,DC:=s}:=⟨h.n,h.k,h.s,h.ul,h.uo,h.tl,h.t32,h.to⟩
theorem DW.re{C B S U T}{d}(h:DW C B S U T d)(g)(f)(e)(p)(l s):DW C B S U T {d with C6:=g,DV:=f,CO:=e,Fy:=p,DN:=l,DC:=s}:=⟨h.k.re g f e p l s,h.o,h.t⟩
theorem Atk{C B S U T}{d}(h:DW C B S U T d)(he:d.CO.length<=50000):DU (OB d) (λ r=>r.1.length=U/\DW C B S U T {d with CP:=r.2.1,CQ:=r.2.2.1,CN:=r.2.2.2.1,CO:=r.2.2.2.2}/\r.2.1=d.CP/\r.2.2.2.1.map core=d.CN.map core/\r.2.2.2.2.length<=d.CO.length+16):=by
 have OS:=h.k.ul;have h8:=h.k.k.u8
 have Ue:d.CT.length=S:=h.k.n.ns;unfold OB;refine tB (P:=λ r=>r.1.length=U/\∀x∈r.1,-1<=x/\x<(S:Int)) (tL (λ s=>(s.1.length:Int)=s.2/\(∀x∈s.1,-1<=x/\x<(S:Int))/\0<=s.2/\s.2<=(U:Int)) (λ s=>((U:Int) - s.2).toNat) ⟨AT,all_nil,AR,AR⟩ ?_) ?_
 . rintro ⟨v,i⟩ ⟨m,a,w,y⟩;dsimp only at m;refine tD (λ Dv=>?_) λ _=>tS ⟨AR,a⟩;rw[C2 (n:=i+1) AQ AQ];refine tI AQ λ u j UH=>tD (λ _=>tT (YK u) (tB (Ab0 h.k.n _ (h.k.uo u UH).last.2) λ x hx=>tG AQ λ _=>tS ⟨⟨?_,Es a hx,AR,AR⟩,AR⟩)) λ _=>tG AQ λ _=>tS ⟨⟨?_,Es a AQ,AR,AR⟩,AR⟩;all_goals (dsimp only;rw[List.length_append];simp only[List.length_cons,List.length_nil];omega)
 rintro ⟨ins,_⟩ ⟨m1,m2⟩;dsimp only at m1;refine tB (Ail h.k) λ sh N=>tB (Aj2 _ AQ) ?_;rintro _ rfl;have I:∀x∈d.CN.map (λ u=>if u.state=0∨u.state=1 then u.Eu else -2),-2<=x/\x<(S:Int):=by
   intro x hx;obtain ⟨u,j,rfl⟩:=BS.1 hx;have:=(h.k.uo u j).hm;split<;>omega
 refine tB (Aqq h.k.n sh _ ins N AW AW m2 I) λ l hl=>?_;have K:l.length=U:=by rw[hl.1];simpa using OS
 refine tG AQ λ _=>?_;refine tB (P:=λ r=>r.2.2.1.length=U/\DW C B S U T {d with CP:=r.2.2.2.1,CQ:=r.2.2.2.2.1,CN:=r.1,CO:=r.2.1}/\r.2.2.2.1=d.CP/\r.1.map core=d.CN.map core/\r.2.1.length<=d.CO.length+16) (tL (λ s=>s.2.2.1.length=U/\DW C B S U T {d with CP:=s.2.2.2.1,CQ:=s.2.2.2.2.1,CN:=s.1,CO:=s.2.1}/\s.2.2.2.1=d.CP/\s.1.map core=d.CN.map core/\(s.2.1.length:Int)<=d.CO.length+2*s.2.2.2.2.2/\0<=s.2.2.2.2.2/\s.2.2.2.2.2<=(U:Int)) (λ s=>((U:Int) - s.2.2.2.2.2).toNat) ⟨by simpa using K,h,rfl,rfl,AR,AR,AR⟩ ?_) (λ ⟨Z,x2,g,x4,x5,x6⟩ I=>tS I);rintro ⟨b,e,mv,o,q,i⟩ ⟨m,a,w,y,k5,k6,k7⟩;dsimp only at*;have a0:b.length=U:=a.k.ul;refine tD (λ Dv=>?_) λ _=>tS ⟨m,a,w,y,AR⟩;rw[C2 (n:=i+1) AQ AQ];have stay:(mv.length=U/\DW C B S U T {d with CP:=o,CQ:=q,CN:=b,CO:=e}/\o=d.CP/\b.map core=d.CN.map core/\(e.length:Int)<=d.CO.length+2*(i+1)/\0<=i+1/\i+1<=(U:Int))/\((U:Int) - (i+1)).toNat<((U:Int) - i).toNat:=⟨⟨m,a,w,y,AQ,AQ,AQ⟩,AQ⟩;refine tI AQ λ u j UH=>tB (KJ u) λ f _=>tC (λ _=>tI AQ λ x hx Y=>tD (λ _=>tS stay) λ _=>?_) λ _=>tS stay;have KL:=hl.2 x Y;have Hx:=a.k.uo u UH;refine tI AQ λ _ _ _=>tB (Fj _ 19 i x AS) λ e2 E=>tJ AQ ?_;have H:=E.2;dsimp only at H;have hv:Vt C S T {u with Eu:=x}:=⟨KL,Hx.ce,Hx.tt,Hx.tk,Hx.rt,Hx.rl,Hx.ac⟩;have kd:DW C B S U T {d with CP:=o,CQ:=q,CN:=b.set i.toNat {u with Eu:=x},CO:=e2}:=⟨(a.k.N4 i.toNat _ hv).Am6 e2,a.o.core (D2 j rfl),a.t.core (D2 j rfl)⟩;have p:(b.set i.toNat {u with Eu:=x}).map core=b.map core:=D2 j rfl;refine tD (λ _=>tB (Al4 kd i AQ AS) ?_) λ _=>tS ⟨⟨by dsimp only;rw[List.length_set];exact m,kd,w,p.trans y,AS,AR,AR⟩,AR⟩;rintro ⟨Z,x2,g,x4⟩ ⟨⟨z,q2,q3,q4⟩,q5⟩;dsimp only at q4;have W:g.length=b.length:=by have:g.length=U:=z.k.ul;omega
 refine tG W λ _=>tI AQ λ v Q R=>?_;have V:=z.k.uo v R;have fin:∀rt:Aa,(∀c∈rt,0<=c/\c<(C:Int))->rt.length<=1000->((mv.set i.toNat true).length=U/\DW C B S U T {d with CP:=Z,CQ:=x2,CN:=g.set i.toNat {v with Db:=rt},CO:=x4}/\Z=d.CP/\(g.set i.toNat {v with Db:=rt}).map core=d.CN.map core/\(x4.length:Int)<=d.CO.length+2*(i+1)/\0<=i+1/\i+1<=(U:Int))/\((U:Int) - (i+1)).toNat<((U:Int) - i).toNat:=by
   intro rt h1 h2;have Xx:(g.set i.toNat {v with Db:=rt}).map core=g.map core:=D2 Q rfl;exact ⟨⟨by rw[Bv];exact m,⟨z.k.N4 i.toNat _ (V.same _ rfl rfl rfl rfl rfl h1 h2),z.o.core Xx,z.t.core Xx⟩,q2.trans w,Xx.trans (q5.trans (p.trans y)),AQ,AQ,AQ⟩,AQ⟩
 refine tD (λ h0=>tI AQ λ s _ hs=>tJ AQ ?_) λ _=>tS (fin [] all_nil AT);simp only[Cp];have:=h.k.n.sp s hs;exact tS (fin [s.base] (NA AQ) AT)
def Sk(a:DX)(st:Aa)(c:Ac)(b p:Aa)(g:Ah)(f:Ao)(e:Ak)(o:Aa)(q:Ab):DX:={a with CP:=o,CQ:=q,closed:=c,Dm:=b,CZ:=p,CN:=g,CR:=f,C6:=false,CO:=e,DC:=st}
theorem An3{C B S U T}{a}{st}{c}{b p}{j}{w}{e}{o}{q}(h:DW C B S U T (Sk a st c b p j w e o q))(z:e.length<=50000):DU (C9 (L7 a st c b p) (j,w,e,o,q,0)) (λ r=>DW C B S U T (Sk a st c b p r.1 r.2.1 r.2.2.1 r.2.2.2.1 r.2.2.2.2.1)/\Ml r.1=Ml j/\r.2.2.1.length<=e.length+128):=by
 have RY:=h.k.t32;refine tL (λ s=>DW C B S U T (Sk a st c b p s.1 s.2.1 s.2.2.1 s.2.2.2.1 s.2.2.2.2.1)/\Ml s.1=Ml j/\(s.2.2.1.length:Int)<=e.length+4*s.2.2.2.2.2/\0<=s.2.2.2.2.2/\s.2.2.2.2.2<=(T:Int)) (λ s=>((T:Int) - s.2.2.2.2.2).toNat) ⟨h,rfl,AR,AR,AR⟩ ?_;rintro ⟨J8,m,y,K,N,i⟩ ⟨g,l,E,H,I⟩;dsimp only at*;have RX:m.length=T:=g.k.tl;refine tD (λ Dv=>?_) λ _=>tS ⟨g,l,AR⟩;rw[C2 (n:=i+1) AQ AQ];refine tB (Aeg g.k i AQ) λ f _=>tC (λ _=>tB (Apt g i 5 5 AQ AQ (by unfold Sk;dsimp only;omega)) ?_) λ _=>tS ⟨⟨g,l,AR,AR,AR⟩,AR⟩;rintro ⟨V,W,Y,Z,x5⟩ ⟨t,x,u,Q,R,v⟩;unfold Sk at t x u v;dsimp only at v;exact tS ⟨⟨t,u.trans l,AS,AR,AR⟩,AR⟩
theorem An4{C B S U T}{a}{st}{c}{b p}{R}{f}{e}{o}{q}(mv)(hm:mv.length=U)(h:DW C B S U T (Sk a st c b p R f e o q))(he:e.length<=50000):DU (C9 (L8 a st c b p mv f) (R,e,o,q,0)) (λ r=>DW C B S U T (Sk a st c b p r.1 f r.2.1 r.2.2.1 r.2.2.2.1)/\Ml r.1=Ml R/\r.2.1.length<=e.length+24):=by
 have h8:=h.k.k.u8;refine tL (λ s=>DW C B S U T (Sk a st c b p s.1 f s.2.1 s.2.2.1 s.2.2.2.1)/\Ml s.1=Ml R/\(s.2.1.length:Int)<=e.length+3*s.2.2.2.2/\0<=s.2.2.2.2/\s.2.2.2.2<=(U:Int)) (λ s=>((U:Int) - s.2.2.2.2).toNat) ⟨h,rfl,AR,AR,AR⟩ ?_;rintro ⟨J8,y,I,K,i⟩ ⟨E,Y,k3,k4,k5⟩;dsimp only at*;have OS:J8.length=U:=E.k.ul;refine tD (λ Dv=>?_) λ _=>tS ⟨E,Y,AR⟩;rw[C2 (n:=i+1) AQ AQ];have stay:(DW C B S U T (Sk a st c b p J8 f y I K)/\Ml J8=Ml R/\(y.length:Int)<=e.length+3*(i+1)/\0<=i+1/\i+1<=(U:Int))/\((U:Int) - (i+1)).toNat<((U:Int) - i).toNat:=⟨⟨E,Y,AQ,AQ,AQ⟩,AQ⟩;refine tI AQ λ u V UH=>tD (λ W=>?_) λ _=>tS stay;have Hx:=E.k.uo u UH;have a0:(Sk a st c b p J8 f y I K).CO.length=y.length:=rfl;have Q:u.Du=1∨u.Du=2->DU (Mp (Sk a st c b p J8 f y I K) u) (λ g=>0<=g/\g<(S:Int)):=λ z=>tW (Y9 E.k u Hx) λ g N=>⟨N.2.2 z (E.t.c _ u V W z),N.2.1⟩;have Bne:∀g:Int,0<=g/\g<(S:Int)->DU (GJ (Sk a st c b p J8 f y I K) i g) (W4 C B S U T (Sk a st c b p J8 f y I K) 2):=λ g N=>Apl E i g u AQ V W N AQ;have Eu:u.Du=3->DU (FZ (Sk a st c b p J8 f y I K) i) (W4 C B S U T (Sk a st c b p J8 f y I K) 3):=λ z=>Ath E i u AQ V W (Int.not_le.1 λ j=>by have:=(E.t.b _ u V j).2.1;omega) AQ;have H:=Apy E.k u Hx;have fin:∀w x l v,W4 C B S U T (Sk a st c b p J8 f y I K) 3 (w,x,l,v)->(DW C B S U T (Sk a st c b p l f v w x)/\Ml l=Ml R/\(v.length:Int)<=e.length+3*(i+1)/\0<=i+1/\i+1<=(U:Int))/\((U:Int) - (i+1)).toNat<((U:Int) - i).toNat:=by
   rintro w x l v ⟨Z,q2,q3,q4⟩;unfold Sk at Z q2 q3;dsimp only at q4;exact ⟨⟨Z,q3.trans Y,AQ,AQ,AQ⟩,AQ⟩
 have Bjw:∀w x l v,W4 C B S U T (Sk a st c b p J8 f y I K) 2 (w,x,l,v)->(DW C B S U T (Sk a st c b p l f v w x)/\Ml l=Ml R/\(v.length:Int)<=e.length+3*(i+1)/\0<=i+1/\i+1<=(U:Int))/\((U:Int) - (i+1)).toNat<((U:Int) - i).toNat:=λ w x l v j=>fin w x l v ⟨j.1,j.2.1,j.2.2.1,by have:=j.2.2.2;omega⟩;unfold Sk at Q Bne Eu H;refine tD (λ z=>tI AQ λ m _ _=>tC (λ _=>tB (Eu z) ?_) λ _=>tB H λ s _=>tC (λ _=>tB (Eu z) ?_) λ _=>tD (λ h=>AQ) λ _=>tD (λ h=>AQ) λ _=>tS stay) λ _=>tD (λ z=>tB H λ s _=>tC (λ _=>tB (Q (Or.inl z)) λ g N=>tB (Bne g N) ?_) λ _=>tS stay) λ _=>tD (λ z=>tB H λ s _=>tC (λ _=>tB (Q (Or.inr z)) λ g N=>tB (Bne g N) ?_) λ _=>tS stay) λ _=>tS stay
 . rintro ⟨w,x,l,v⟩ j;exact tS (fin _ _ _ _ j)
 . rintro ⟨w,x,l,v⟩ j;exact tS (fin _ _ _ _ j)
 . rintro ⟨w,x,l,v⟩ j;exact tS (Bjw _ _ _ _ j)
 . rintro ⟨w,x,l,v⟩ j;exact tS (Bjw _ _ _ _ j)
theorem Agq{C B S U T}{a}{st}{c}{b p}{g}{i}{e}{o}{q}(h:DW C B S U T (Sk a st c b p g i e o q))(he:e.length<=10000)(Ly:st.length<=1000)(a0:∀x∈st,0<=x/\x<(U:Int)){σ:Type}(stop:Aa->Ab->Ah->Ao->Ak->σ)(v:Ah->Ao->Ak->Aa->Ac->Aa->Aa->Aa->Ab->σ)(Q:σ->Prop)
   (Y:∀o q J8 ts' f,DW C B S U T (Sk a st c b p J8 ts' f o q)->Ml J8=Ml g->f.length<=e.length+200->Q (stop o q J8 ts' f))
   (h2:∀o q J8 ts' f l u t K,DW C B S U T (Sk a (st++l) u t K J8 ts' f o q)->act J8<act g->f.length<=e.length+700->l.length<=8->(∀x∈l,0<=x/\x<(U:Int))->Q (v J8 ts' f (st++l) u t K o q)):
   DU (Option.bind (OB (Sk a st c b p g i e o q)) λ x=>Option.bind (C9 (L7 a st c b p) (x.2.2.2.1,i,x.2.2.2.2,x.2.1,x.2.2.1,0)) λ y=>Option.bind (C9 (L8 a st c b p x.1 y.2.1) (y.1,y.2.2.1,y.2.2.2.1,y.2.2.2.2.1,0)) λ z=>Option.bind (Iq (Sk a st c b p z.1 y.2.1 z.2.1 z.2.2.1 z.2.2.2.1)) λ w=>cond (decide (((w.length:Nat):Int)=0)) (some (stop z.2.2.1 z.2.2.2.1 z.1 y.2.1 z.2.1)) (Option.bind (Pq (Sk a st c b p z.1 y.2.1 z.2.1 z.2.2.1 z.2.2.2.1) w) λ s=>cond (decide (st.length+w.length<10000000)) (some (v s.2.2.2.2.2.1 s.2.2.2.2.2.2.1 s.2.2.2.2.2.2.2 (st++w) s.2.2.1 s.2.2.2.1 s.2.2.2.2.1 s.1 s.2.1)) none)) Q:=by
 refine tB (Atk h (by unfold Sk;dsimp only;omega)) ?_;rintro ⟨mv,o1,q1,n,W⟩ ⟨k1,H,k3,k4,I⟩;unfold Sk at H I;dsimp only at I ⊢;have Tk:DW C B S U T (Sk a st c b p n i W o1 q1):=H;refine tB (An3 Tk AQ) ?_;rintro ⟨a2,a1,e2,o2,q2,_⟩ ⟨m1,m2,m3⟩;dsimp only at m3 ⊢;refine tB (An4 mv k1 m1 AQ) ?_;rintro ⟨r,e3,o3,q3,_⟩ ⟨m,n2,n3⟩;dsimp only at n3 ⊢;have E:Ml r=Ml g:=by rw[n2,m2];exact JY k4
 refine tB (Vq m.k) λ w j=>tD (λ _=>tS (Y _ _ _ _ _ m E AQ)) λ EG=>?_;have h8:=h.k.k.u8;refine tB (Aij m w AQ (λ x hx=>by have:=j.2 x hx;omega) (by unfold Sk;dsimp only;omega)) ?_;rintro ⟨x1,x2,x3,x4,x5,x6,x7,x8⟩ ⟨N,R,r3,V⟩;unfold Aqt Sk at N;unfold Sk at R r3 V;dsimp only at R ⊢;have Dv:=V (by intro Z;apply EG;rw[Z];rfl) (λ x hx=>(j.2 x hx).2.2);rw[Avf E] at Dv;refine tG AQ λ _=>tS (h2 _ _ _ _ _ w _ _ _ ?_ Dv AQ AQ (λ x hx=>by have:=j.2 x hx;omega));exact N.re false a.DV _ a.Fy a.DN (st++w)
def Au2(C B S U T:Nat)(d:DX)(r:Aa×Ab×Ac×Aa×Aa×Ah×Ao×Bool×Ak×Aa):Prop:=
 DW C B S U T {d with CP:=r.1,CQ:=r.2.1,closed:=r.2.2.1,Dm:=r.2.2.2.1,CZ:=r.2.2.2.2.1,CN:=r.2.2.2.2.2.1,CR:=r.2.2.2.2.2.2.1,C6:=r.2.2.2.2.2.2.2.1,CO:=r.2.2.2.2.2.2.2.2.1,DC:=r.2.2.2.2.2.2.2.2.2}/\r.2.2.2.2.2.2.2.2.1.length<=d.CO.length+8000/\r.2.2.2.2.2.2.2.2.2.length<=200/\∀x∈r.2.2.2.2.2.2.2.2.2,0<=x/\x<(U:Int)
theorem Bp5(us):act us<=us.length:=List.length_filter_le _ _
theorem u0{C B S U T}{d}(h:DW C B S U T d)(he:d.CO.length<=1000)(Ly:d.DC.length<=100)(H:∀x∈d.DC,0<=x/\x<(U:Int)):DU (HC d) (Au2 C B S U T d):=by
 have h8:=h.k.k.u8;have OS:=h.k.ul
 have Bsh:=Bp5 d.CN;unfold HC;refine tB (P:=Au2 C B S U T d) (tL (λ s=>DW C B S U T {d with CP:=s.2.2.2.2.2.2.2.2.1,CQ:=s.2.2.2.2.2.2.2.2.2,closed:=s.2.2.2.2.1,Dm:=s.2.2.2.2.2.1,CZ:=s.2.2.2.2.2.2.1,CN:=s.1,CR:=s.2.1,C6:=s.2.2.2.2.2.2.2.1,CO:=s.2.2.1,DC:=s.2.2.2.1}/\s.2.2.1.length+800*act s.1<=d.CO.length+800*act d.CN/\s.2.2.2.1.length+8*act s.1<=d.DC.length+8*act d.CN/\(∀x∈s.2.2.2.1,0<=x/\x<(U:Int))) (λ s=>act s.1) ⟨h,AS,AS,H⟩ ?_) (λ r V=>tS V);rintro ⟨E,Z,e,i,c,b,p,g,o,q⟩ ⟨z,k2,k3,y⟩;dsimp only at*;refine tB (Atg z.k) λ so _=>tC (λ _=>?_) λ _=>tC (λ _=>tS ⟨z.re true d.DV e d.Fy d.DN i,AS,AS,y⟩) λ _=>tB (Fj _ 13 1 0 AS) λ j t=>tS ?_;rotate_left
 . have u:=t.2;dsimp only at u;exact ⟨z.re true d.DV j d.Fy d.DN i,AS,AS,y⟩
 have key:∀j:Ak,j.length<=e.length+1->DW C B S U T (Sk d i c b p E Z j o q)/\(∀o q J8 a f,DW C B S U T (Sk d i c b p J8 a f o q)->Ml J8=Ml E->f.length<=j.length+200->Au2 C B S U T d (o,q,c,b,p,J8,a,false,f,i))/\(∀o q J8 a f l n m v,DW C B S U T (Sk d (i++l) n m v J8 a f o q)->act J8<act E->f.length<=j.length+700->l.length<=8->(∀x∈l,0<=x/\x<(U:Int))->(DW C B S U T {d with CP:=o,CQ:=q,closed:=n,Dm:=m,CZ:=v,CN:=J8,CR:=a,C6:=false,CO:=f,DC:=i++l}/\f.length+800*act J8<=d.CO.length+800*act d.CN/\(i++l).length+8*act J8<=d.DC.length+8*act d.CN/\(∀x∈i++l,0<=x/\x<(U:Int)))/\act J8<act E):=by
   intro j h2;refine ⟨z.re false d.DV j d.Fy d.DN i,λ o q J8 a f I R W=>⟨I,AS,AS,y⟩,λ o q J8 a f l n m v I R W r4 Y=>⟨⟨I,?_,?_,Pu y Y⟩,R⟩⟩
   . omega
   . rw[Bw];omega
 refine tC (λ _=>tB (Fj _ 13 0 0 AS) λ j t=>?_) λ _=>?_
 . have u:=t.2;dsimp only at u;obtain ⟨K,N,Q⟩:=key j AQ;exact Agq K AQ AQ y (λ o q J8 a f=>Sum.inr (o,q,c,b,p,J8,a,false,f,i)) (λ J8 a f w n m v o q=>Sum.inl (J8,a,f,w,n,m,v,false,o,q)) _ N Q
 . obtain ⟨K,N,Q⟩:=key e AQ;exact Agq K AQ AQ y (λ o q J8 a f=>Sum.inr (o,q,c,b,p,J8,a,false,f,i)) (λ J8 a f w n m v o q=>Sum.inl (J8,a,f,w,n,m,v,false,o,q)) _ N Q
theorem Ala{C B S U T}{d}(h:DW C B S U T d)(he:d.CO.length<=50000):DU (OC d) (λ r=>W4 C B S U T d 16 r/\r.2.2.1.map core=d.CN.map core):=by
 have h8:=h.k.k.u8;have N:d.blocks.length=B:=h.k.n.nb;unfold OC;refine tB (P:=λ e=>DW C B S U T {d with CP:=e.2.2.1,CQ:=e.2.2.2.1,CN:=e.1,CO:=e.2.1}/\e.2.2.1=d.CP/\e.1.map core=d.CN.map core/\e.2.1.length<=d.CO.length+16) (tL (λ s=>DW C B S U T {d with CP:=s.2.2.1,CQ:=s.2.2.2.1,CN:=s.1,CO:=s.2.1}/\s.2.2.1=d.CP/\s.1.map core=d.CN.map core/\(s.2.1.length:Int)<=d.CO.length+2*s.2.2.2.2/\0<=s.2.2.2.2/\s.2.2.2.2<=(U:Int)) (λ s=>((U:Int) - s.2.2.2.2).toNat) ⟨h,rfl,rfl,AR,AR,AR⟩ ?_) (λ ⟨Y,Z,j,x4,x5⟩ b=>tS ⟨⟨b.1,b.2.1,JY b.2.2.1,b.2.2.2⟩,b.2.2.1⟩);rintro ⟨l,e,o,q,i⟩ ⟨a,z,E,k4,k5,k6⟩;dsimp only at*;have OS:l.length=U:=a.k.ul;refine tD (λ Dv=>?_) λ _=>tS ⟨a,z,E,AR⟩;rw[C2 (n:=i+1) AQ AQ];have stay:(DW C B S U T {d with CP:=o,CQ:=q,CN:=l,CO:=e}/\o=d.CP/\l.map core=d.CN.map core/\(e.length:Int)<=d.CO.length+2*(i+1)/\0<=i+1/\i+1<=(U:Int))/\((U:Int) - (i+1)).toNat<((U:Int) - i).toNat:=⟨⟨a,z,E,AQ,AQ,AQ⟩,AQ⟩;refine tI AQ λ u hu UH=>tB (LS a.k.k i) λ w _=>tD (λ _=>tD (λ _=>tS stay) λ _=>tD (λ _=>tS stay) λ _=>tD (λ _=>tS stay) λ _=>tD (λ _=>tS stay) λ _=>tD (λ _=>tS stay) λ _=>tD (λ _=>tS stay) λ _=>?_) λ _=>tS stay;refine tB (Y9 a.k u (a.k.uo u UH)) λ g hg=>tD (λ _=>tS stay) λ _=>tB (Aua h.k.n d.sg h.k.s a.k.k u.cell w g AQ AQ) ?_;rintro ⟨H,ok⟩ ⟨KF,JE⟩;refine tC (λ _=>tB (Al4 a i AQ AS) ?_) λ _=>tS stay;rintro ⟨Y,Z,j,x4⟩ ⟨⟨f,R,q3,V⟩,W⟩;dsimp only at V;have y:j.length=l.length:=by have:j.length=U:=f.k.ul;omega
 refine tB (Fj _ 12 i 0 AS) λ I m=>tG y λ _=>tI AQ λ v Q p=>tJ AQ (tS ?_);have K:=m.2;simp only[Cp];have x:=f.k.uo v p;have Xx:∀w:Int,(j.set i.toNat {v with Db:=H,EH:=w}).map core=j.map core:=λ w=>D2 Q rfl;exact ⟨⟨⟨(f.k.N4 i.toNat {v with Db:=H,EH:=_} (x.same _ rfl rfl rfl rfl rfl JE AR)).Am6 I,f.o.core (Xx _),f.t.core (Xx _)⟩,R.trans z,(Xx _).trans (W.trans E),AR,AR,AR⟩,AR⟩
theorem Al3{C B S U T}{d}(h:DW C B S U T d)(W:d.CO.length<=50000):DU (OA d) (λ r=>W4 C B S U T d 8 r/\r.2.2.1.map core=d.CN.map core):=by
 have V:=h.k.k.u8;unfold OA;refine tB (P:=λ e=>DW C B S U T {d with CP:=e.2.2.1,CQ:=e.2.2.2.1,CN:=e.1,CO:=e.2.1}/\e.2.2.1=d.CP/\e.1.map core=d.CN.map core/\e.2.1.length<=d.CO.length+8) (tL (λ s=>DW C B S U T {d with CP:=s.2.2.1,CQ:=s.2.2.2.1,CN:=s.1,CO:=s.2.1}/\s.2.2.1=d.CP/\s.1.map core=d.CN.map core/\(s.2.1.length:Int)<=d.CO.length+s.2.2.2.2/\0<=s.2.2.2.2/\s.2.2.2.2<=(U:Int)) (λ s=>((U:Int) - s.2.2.2.2).toNat) ⟨h,rfl,rfl,AR,AR,AR⟩ ?_) (λ ⟨x1,x2,x3,x4,x5⟩ j=>tS ⟨⟨j.1,j.2.1,JY j.2.2.1,j.2.2.2⟩,j.2.2.1⟩);rintro ⟨m,e,o,q,i⟩ ⟨a,I,K,Y,Z,k6⟩;dsimp only at*;have OS:m.length=U:=a.k.ul;refine tD (λ Dv=>?_) λ _=>tS ⟨a,I,K,AR⟩;rw[C2 (n:=i+1) AQ AQ];have stay:(DW C B S U T {d with CP:=o,CQ:=q,CN:=m,CO:=e}/\o=d.CP/\m.map core=d.CN.map core/\(e.length:Int)<=d.CO.length+(i+1)/\0<=i+1/\i+1<=(U:Int))/\((U:Int) - (i+1)).toNat<((U:Int) - i).toNat:=⟨⟨a,I,K,AQ,AQ,AQ⟩,AQ⟩;refine tI AQ λ u N UH=>tB (KJ u) λ f _=>tC (λ _=>tD (λ _=>tC (λ _=>tS stay) λ _=>tD (λ _=>tS stay) λ EG=>tB (LS a.k.k i) λ w _=>tD (λ _=>tS stay) λ _=>tI AQ λ x _ hx=>?_) λ _=>tS stay) λ _=>tS stay;have Hx:=a.k.uo u UH;refine tB (Are a.k.k i x AQ (Hx.rt x hx)) ?_;rintro ⟨l,R⟩ z;rcases z with z | ⟨E,b,H⟩
 . exact tD (λ e=>absurd e z) λ _=>tS stay
 refine tD (λ _=>tB (Fj _ 9 i x AS) λ Q v=>tS ?_) λ e=>absurd E e;have y:=v.2;dsimp only at y;have p:(m.set i.toNat {u with DG:=false,wait:=0}).map core=m.map core:=D2 N rfl;have g:=(a.k.N4 i.toNat {u with DG:=false,wait:=0} (Hx.same _ rfl rfl rfl rfl rfl Hx.rt Hx.rl));exact ⟨⟨⟨⟨g.n,by dsimp only;rw[b];exact H,g.s,g.ul,g.uo,g.tl,g.t32,g.to⟩,by dsimp only;rw[b];exact a.o.core p,a.t.core p⟩,b.trans I,p.trans K,AS,AR,AR⟩,AR⟩
def Pg(t:Tsk):Int×Int×Int×Int:=(t.pick,t.drop,t.state,t.CY)
theorem YB{e ts':Ao}(h:ts'.map Pg=e.map Pg){i:Nat}{a}(f:ts'[i]?=some a):∃t,e[i]?=some t/\t.pick=a.pick/\t.drop=a.drop/\t.state=a.state/\t.CY=a.CY:=by
 have b:(ts'.map Pg)[i]?=some (Pg a):=by rw[BD,f];rfl
 rw[h,BD] at b;cases hx:e[i]? with
 | none=>rw[hx] at b;cases b
 | some u=>rw[hx] at b;have:=Bf b;unfold Pg at this;simp only[Cs] at this;exact ⟨u,rfl,this⟩
theorem TL.Pg{n}{m ts'}(h:TL n m)(e:ts'.map Pg=m.map Pg):TL n ts':=by
 refine ⟨λ j t f y=>?_,λ i u r p=>?_,h.c,h.d⟩
 . obtain ⟨v,k,_,_,o,l⟩:=YB e f;rw[<-l];exact h.a j v k AQ
 . obtain ⟨q,h2,t,f,w,x⟩:=h.b i u r p;obtain ⟨s,g,_,_,o,l⟩:=YB e.symm f;exact ⟨q,h2,s,g,AQ,AQ⟩
theorem TL.begin{p}{o}(h:TL p o){j i:Nat}{t}{u}(v:o[j]?=some t)(h0:t.state=0)(l:p[i]?=some u)(s:u.state=1)(h2:u.DY<0):TL (p.set i {u with DY:=(j:Int),Du:=1}) (o.set j {t with state:=1,CY:=(i:Int)}):=by
 refine ⟨λ k x hx I3=>?_,λ k x hx f=>?_,λ k x hx g Tj=>?_,λ k x hx f=>?_⟩
 . rcases EL hx with ⟨rfl,rfl⟩ | ⟨EG,hx⟩
   . exact ⟨{u with DY:=(j:Int),Du:=1},by dsimp only;rw[Be];exact gs (Fh l),s,rfl⟩
   . obtain ⟨w,m,q,r⟩:=h.a k x hx I3;refine ⟨w,?_,q,r⟩;rw[IS];exact m;intro e;rw[<-e,l] at m;cases m;omega
 . rcases EL hx with ⟨rfl,rfl⟩ | ⟨EG,hx⟩
   . exact ⟨s,Or.inl rfl,{t with state:=1,CY:=(i:Int)},by dsimp only;rw[Be];exact gs (Fh v),rfl,Or.inl rfl⟩
   . obtain ⟨q,r,y,n,z,B⟩:=h.b k x hx f;refine ⟨q,r,y,?_,z,B⟩;rw[IS];exact n;intro e;rw[<-e,v] at n;cases n;omega
 . rcases EL hx with ⟨rfl,rfl⟩ | ⟨EG,hx⟩
   . dsimp only;omega
   . exact h.c k x hx g Tj
 . rcases EL hx with ⟨rfl,rfl⟩ | ⟨EG,hx⟩
   . exact h.d i u l f
   . exact h.d k x hx f
def qd(a:Ao):Nat:=(a.filter (λ t=>t.state==0)).length
theorem Bir{a ts'}(h:ts'.map Pg=a.map Pg):qd ts'=qd a:=by
 have:∀a:Ao,qd a=((a.map Pg).filter (λ c=>c.2.2.1==0)).length:=by
   intro a;unfold qd;rw[List.filter_map,Ct];rfl
 rw[this,this,h]
theorem Bni{e}{i}{u v}(b:e[i]?=some u)(j:u.state=0)(h2:v.state≠0):qd (e.set i v)+1=qd e:=by
 induction e generalizing i with
 | nil=>simp at b
 | cons a l k=>
   cases i with
   | zero=>
     simp only[BE,Bo] at b;subst b;have f:(a.state==0)=true:=by simp[j]
     have g:(v.state==0)=false:=by simp[h2]
     simp[qd,Co,f,g]
   | succ i=>
     have:=k b;unfold qd at this ⊢;simp only[BR,Co];split
     . simp only[Br];omega
     . exact this
theorem Apk{C B S U T}{d}(h:DW C B S U T d)(he:d.CO.length<=50000):DU (QI d) (λ r=>DW C B S U T {d with CP:=r.1,CQ:=r.2.1,CN:=r.2.2.1,CR:=r.2.2.2.1,CO:=r.2.2.2.2}/\r.1=d.CP/\Ml r.2.2.1=Ml d.CN/\r.2.2.2.2.length<=d.CO.length+96):=by
 have h8:=h.k.k.u8;have RY:=h.k.t32
 have a6:qd d.CR<=T:=by have:qd d.CR<=d.CR.length:=List.length_filter_le _ _;have:=h.k.tl;omega
 unfold QI;refine tB (P:=λ r=>DW C B S U T {d with CP:=r.1,CQ:=r.2.1,CN:=r.2.2.1,CR:=r.2.2.2.1,CO:=r.2.2.2.2}/\r.1=d.CP/\Ml r.2.2.1=Ml d.CN/\r.2.2.2.2.length<=d.CO.length+96) (tL (λ s=>DW C B S U T {d with CP:=s.2.2.2.1,CQ:=s.2.2.2.2,CN:=s.1,CR:=s.2.2.1,CO:=s.2.1}/\s.2.2.2.1=d.CP/\Ml s.1=Ml d.CN/\s.2.1.length+3*qd s.2.2.1<=d.CO.length+3*qd d.CR) (λ s=>qd s.2.2.1) ⟨h,rfl,rfl,Bk _⟩ ?_) (λ r I=>tS I);rintro ⟨E,e,l,o,q⟩ ⟨a,K,N,k4⟩;dsimp only at k4;have OS:E.length=U:=a.k.ul;have RX:l.length=T:=a.k.tl;refine tB (TO a.k (-1) AQ) ?_;rintro ⟨x1,x2⟩ _;refine tC (λ _=>?_) λ _=>tS ⟨a,K,N,AR⟩;refine tB (P:=λ e=>e.1.length=T) (tL (λ s=>(s.1.length:Int)=s.2/\0<=s.2/\s.2<=(T:Int)) (λ s=>((T:Int) - s.2).toNat) ⟨AT,AR,AR⟩ ?_) ?_
 . rintro ⟨v,i⟩ ⟨m1,m2,m3⟩;dsimp only at m1;refine tD (λ Dv=>?_) λ _=>tS AR;rw[C2 (n:=i+1) AQ AQ];refine tB (Bkx h.k.n E l i a.k.uo a.k.to RX AQ AQ) λ b _=>tG AQ λ _=>tS ⟨⟨by dsimp only;rw[List.length_append];simp only[List.length_cons,List.length_nil];omega,AR,AR⟩,AR⟩
 rintro ⟨can,_⟩ Bze;dsimp only at Bze;refine tB (Bhw l can d.ca AQ AQ) λ j hj=>tD (λ _=>tS ⟨a,K,N,AR⟩) λ a3=>?_;rcases hj with hj | ⟨a4,a5,t,m,p⟩
 . omega
 have f:=a.k.to t (Bt m);refine tI AQ λ y hy _=>?_;obtain rfl:t=y:=by rw[m] at hy;exact Bf hy
 refine tB (TO a.k t.pick f.pk.2) ?_;rintro ⟨r,r2⟩ I;refine tD (λ _=>tS ⟨a,K,N,AR⟩) λ a7=>?_;rcases I with I | ⟨KF,JE,u,g,w,a9⟩
 . omega
 refine tB (Bbo l j r AQ AQ t m) λ ts' Byf=>?_;have Bji:ts'.map Pg=(l.set j.toNat {t with state:=1,CY:=r}).map Pg:=Byf;have Z:ts'.length=T:=by have:=B3 List.length Bji;simp at this;omega
 refine tB (Fj _ 2 j r AS) λ e2 R=>tI AQ λ z hz _=>tJ AQ (tI AQ λ t2 a8 Byi=>?_);have V:=R.2;dsimp only at V;obtain rfl:u=z:=by rw[g] at hz;exact Bf hz
 simp only[Cp];have Hx:=a.k.uo u (Bt g);have a2:u.DY<0:=Int.not_le.1 λ H=>by have:=(a.t.b _ u g H).2.1;omega
 have W:((j.toNat:Nat):Int)=j:=AQ;have a0:((r.toNat:Nat):Int)=r:=AQ;have Byg:TL (E.set r.toNat {u with DY:=j,Du:=1}) ts':=by
   have:=(a.t.begin m p g w a2).Pg (ts':=ts') (by rw[a0];exact Bji);rw[W] at this;exact this
 have Bro:∀x∈ts',TOK S U x:=by
   intro x hx;obtain ⟨k,hk,Y⟩:=List.getElem_of_mem hx;have KL:ts'[k]?=some x:=by rw[Bp hk,Y]
   obtain ⟨t0,a1,c1,c2,c3,c4⟩:=YB Bji KL;have:TOK S U t0:=by
     rcases EL a1 with ⟨_,rfl⟩ | ⟨_,H⟩
     . exact ⟨f.pk,f.dr,λ _=>⟨KF,JE⟩⟩
     . exact a.k.to t0 (Bt H)
   exact ⟨by rw[<-c1];exact this.pk,by rw[<-c2];exact this.dr,λ H=>by rw[<-c4];exact this.rb AQ⟩
 have kd:DK C B S U T {d with CP:=o,CQ:=q,CN:=E.set r.toNat {u with DY:=j,Du:=1},CR:=ts',CO:=e2}:=
   ⟨h.k.n,a.k.k,h.k.s,by simpa using OS,EM a.k.uo ⟨Hx.hm,Hx.ce,Hx.tt,AS,Hx.rt,Hx.rl,Hx.ac⟩,Z,RY,Bro⟩
 have Q:DW C B S U T {d with CP:=o,CQ:=q,CN:=E.set r.toNat {u with DY:=j,Du:=1},CR:=ts',CO:=e2}:=⟨kd,a.o.Amx {u with DY:=j,Du:=1} g (Or.inl rfl) rfl rfl,Byg⟩;refine tB (Apl Q r t2.pick {u with DY:=j,Du:=1} AQ (gs AQ) w (Bro t2 Byi).pk AS) ?_;rintro ⟨x3,x4,x5,x6⟩ ⟨q1,q2,q3,q4⟩;dsimp only at q4;have hq:qd ts'+1=qd l:=by rw[Bir Bji];exact Bni m p AS
 refine tS ⟨⟨q1,q2.trans K,q3.trans ?_,AS⟩,AS⟩;rw[<-N];exact D2 g rfl
def outs(a:Ah):Nat:=(a.filter (λ u=>u.state==0)).length
theorem Ane{a J8}(h:Ml J8=Ml a):outs J8=outs a:=by
 have:∀a:Ah,outs a=((Ml a).filter (· ==0)).length:=by
   intro a;unfold outs Ml;rw[List.filter_map,Ct];rfl
 rw[this,this,h]
theorem Bcq{e}{i}{u v}(b:e[i]?=some u)(j:u.state=0)(h2:v.state≠0):outs (e.set i v)+1=outs e:=by
 induction e generalizing i with
 | nil=>simp at b
 | cons a l k=>
   cases i with
   | zero=>
     simp only[BE,Bo] at b;subst b;have f:(a.state==0)=true:=by simp[j]
     have g:(v.state==0)=false:=by simp[h2]
     simp[outs,Co,f,g]
   | succ i=>
     have:=k b;unfold outs at this ⊢;simp only[BR,Co];split
     . simp only[Br];omega
     . exact this
theorem TL.Bxv{m}{o}(h:TL m o){i}{u}(v)(g:m[i]?=some u)(n:v.state=u.state)(h2:v.DY=u.DY)(r:v.Du=u.Du)(s:v.state=0->v.E9=-1):TL (m.set i v) o:=by
 refine ⟨λ k x hx I3=>?_,λ k x hx f=>?_,λ k x hx j Tj=>?_,λ k x hx f=>?_⟩
 . obtain ⟨w,l,p,q⟩:=h.a k x hx I3;by_cases e:i=x.CY.toNat
   . rw[<-e,g] at l;cases l;exact ⟨v,by rw[<-e];exact gs (Fh g),n.trans p,h2.trans q⟩
   . exact ⟨w,by rw[IS e];exact l,p,q⟩
 . rcases EL hx with ⟨rfl,rfl⟩ | ⟨EG,hx⟩
   . have:=h.b i u g AQ;rw[n,h2,r];exact this
   . exact h.b k x hx f
 . rcases EL hx with ⟨rfl,rfl⟩ | ⟨EG,hx⟩
   . have:=h.c i u g AQ AQ;omega
   . exact h.c k x hx j Tj
 . rcases EL hx with ⟨rfl,rfl⟩ | ⟨EG,hx⟩
   . exact s f
   . exact h.d k x hx f
theorem Bhd(u)(r):∃f:UO,Ks u r=some f/\f.CY=r/\f.seq=u.seq:=by
 unfold Ks;cases u.DG
 . exact ⟨_,rfl,rfl,rfl⟩
 . exact ⟨_,rfl,rfl,rfl⟩
def Avh(C B S U T:Nat)(d:DX)(r:Aa×Ab×Ah×Au×Ak×AB):Prop:=
 DW C B S U T {d with CP:=r.1,CQ:=r.2.1,CN:=r.2.2.1,DV:=r.2.2.2.1,CO:=r.2.2.2.2.1,Fy:=r.2.2.2.2.2}/\r.2.2.2.2.1.length<=d.CO.length+48/\r.2.2.2.1.length<=d.DV.length+48/\r.2.2.2.2.2.length+outs r.2.2.1=d.Fy.length+outs d.CN/\((∀f∈d.DV,0<=f.CY/\f.CY<(U:Int))->∀f∈r.2.2.2.1,0<=f.CY/\f.CY<(U:Int))/\((∀g∈d.Fy,0<=g.CY/\g.CY<(U:Int))->∀g∈r.2.2.2.2.2,0<=g.CY/\g.CY<(U:Int))/\d.Fy.length<=r.2.2.2.2.2.length
theorem Aps{C B S U T}{d}(h:DW C B S U T d)(he:d.CO.length<=50000)(hf:d.DV.length<=50000)(hp:d.Fy.length<=50000):DU (QM d) (Avh C B S U T d):=by
 have NJ:=h.k.n.OZ;have PV:d.closed.length=C:=h.k.s.cl;unfold QM;refine tB (Ajm h.k.k d.closed PV) ?_;rintro ⟨l,g,er⟩ ⟨g1,g2,g3,g4,g5,g6⟩;dsimp only at g5;refine tD (λ _=>?_) λ e=>absurd g1 e;have a0:∀(i j:Nat) x y,i<j->g[i]?=some x->g[j]?=some y->x.cell<y.cell:=by
   intro i j x y a5 hx H;have hi:=Fh hx;have hj:=Fh H
   have h1:=(List.pairwise_iff_getElem.1 g4) i j (by simpa using hi) (by simpa using hj) a5;simp only[List.getElem_map] at h1;rw[Bp hi] at hx;rw[Bp hj] at H;rw[<-Bf hx,<-Bf H];exact h1
 refine tB (P:=λ e=>Avh C B S U T d (l.CP,l.CQ,e.1,e.2.1,e.2.2.1,e.2.2.2.1)) (tL (λ s=>∃i:Nat,s.2.2.2.2=(i:Int)/\i<=g.length/\Avh C B S U T d (l.CP,l.CQ,s.1,s.2.1,s.2.2.1,s.2.2.2.1)/\s.2.2.1.length<=d.CO.length+i/\s.2.1.length<=d.DV.length+i/\s.2.2.2.1.length<=d.Fy.length+i/\∀(k:Nat) u (j:Nat) x,s.1[k]?=some u->u.state=1->i<=j->g[j]?=some x->x.cell≠u.cell) (λ s=>g.length - s.2.2.2.2.toNat) ⟨0,rfl,AQ,?_,AR,AR,AR,?_⟩ ?_) (λ ⟨x1,x2,x3,x4,x5⟩ m=>tS m)
 . refine ⟨⟨⟨h.k.n,g2,h.k.s,h.k.ul,h.k.uo,h.k.tl,h.k.t32,h.k.to⟩,?_,h.t⟩,AR,AR,rfl,λ m=>m,λ m=>m,Bk _⟩;intro k u q N;obtain ⟨Z,o2⟩:=h.o k u q N;exact ⟨g6 _ _ Z AQ,λ EG=>⟨g6 _ _ (o2 EG).1 AQ,(o2 EG).2⟩⟩
 . intro k u j x q N _ hx e;obtain ⟨Z,o2⟩:=h.o k u q N;obtain ⟨_,_,_,_,e1,_⟩:=g3 x (Bt hx);rw[e,Z] at e1;have:=Bf e1;omega
 rintro ⟨R,fr,e,pu,_⟩ ⟨i,rfl,hi,⟨z,k2,k3,k4,k5,k6,Y⟩,k7,k8,k9,I⟩;dsimp only at*;have OS:R.length=U:=z.k.ul;refine tD (λ Dv=>tI AQ λ x hx a7=>?_) λ _=>tS ⟨z,k2,k3,k4,k5,k6,Y⟩;obtain ⟨x1,x2,x3,x4,x5,x6⟩:=g3 x a7;have r:0<=x.CY/\x.CY<(R.length:Int):=AQ;refine tI r λ u q UH=>tB (Fj _ 11 x.CY x.cell AS) λ e2 a1=>tJ r ?_;have a2:=a1.2;dsimp only at a2;have Hx:=z.k.uo u UH;simp only[Cp];rw[C2 (n:=(i:Int)+1) AQ AQ];refine tD (λ K=>?_) λ K=>?_
 . refine tJ r (tJ r (tJ r (tB (XD h.k.n x.cell AQ) λ rt E=>tG AQ λ _=>tS ?_)));have W:u.DY<0:=Int.not_le.1 λ m=>by have:=(z.t.b _ u q m).1;omega
   have a6:u.E9=-1:=z.t.d _ u q K;have hv:Vt C S T {u with wait:=0,state:=1,cell:=x.cell,Du:=0,Db:=rt}:=⟨Hx.hm,AS,Hx.tt,Hx.tk,E.2,AS,λ _=>x3⟩;have Q:((x.CY.toNat:Nat):Int)=x.CY:=AQ;have Aag:=Bcq (v:={u with wait:=0,state:=1,cell:=x.cell,Du:=0,Db:=rt}) q K AS;refine ⟨⟨i+1,AT,AQ,⟨⟨⟨h.k.n,g2,h.k.s,by simpa using OS,EM z.k.uo hv,h.k.tl,h.k.t32,h.k.to⟩,?_,?_⟩,AS,AS,?_,k5,λ m=>Es (k6 m) ⟨x1,x2⟩,by dsimp only;rw[List.length_append];omega⟩,AS,AS,by dsimp only;rw[List.length_append];simp only[List.length_cons,List.length_nil];omega,?_⟩,AS⟩
   . intro k w p a;rcases EL p with ⟨rfl,rfl⟩ | ⟨EG,p⟩
     . dsimp only;exact ⟨by rw[x6,Q],λ m=>absurd a6 m⟩
     . exact z.o k w p a
   . exact z.t.Amy q W (v:={u with wait:=0,state:=1,cell:=x.cell,Du:=0,Db:=rt}) W (by intro _ m;dsimp only at m;omega) (λ m=>by dsimp only at m;omega)
   . dsimp only;rw[Bw];simp only[Br,Bx];omega
   . intro k w j y p a hj H;rcases EL p with ⟨rfl,rfl⟩ | ⟨EG,p⟩
     . have:=a0 i j x y AQ hx H;dsimp only;omega
     . exact I k w j y p a AQ H
 . refine tJ r ?_;generalize E:(List.drop (if ((u.Db.length:Nat):Int)<1 then ((u.Db.length:Nat):Int) else 1).toNat (List.take u.Db.length u.Db))=rt;have Byo:rt.length<=1000:=by rw[<-E,List.length_drop,BK];have:=Hx.rl;omega
   have Byn:∀c∈rt,0<=c/\c<(C:Int):=by rw[<-E];exact Aqo (Aqn Hx.rt)
   have Q:((x.CY.toNat:Nat):Int)=x.CY:=AQ;have fin:∀(v:KM) (f:UO),v.state=u.state->v.cell=u.cell->v.E9=x.cell->v.DY=u.DY->v.Du=u.Du->v.Eu=u.Eu->v.Db=rt->f.CY=x.CY->(∃i:Nat,((i:Nat):Int)+0=(i:Int)/\True)->(∃n:Nat,(i:Int)+1=(n:Int)/\n<=g.length/\Avh C B S U T d (l.CP,l.CQ,R.set x.CY.toNat v,fr++[f],e2,pu)/\e2.length<=d.CO.length+n/\(fr++[f]).length<=d.DV.length+n/\pu.length<=d.Fy.length+n/\∀(k:Nat) u (j:Nat) y,(R.set x.CY.toNat v)[k]?=some u->u.state=1->n<=j->g[j]?=some y->y.cell≠u.cell)/\g.length - ((i:Int)+1).toNat<g.length - ((i:Int)).toNat:=by
     intro v f V v2 v3 v4 v5 v6 v7 v8 _;have hs:Ml (R.set x.CY.toNat v)=Ml R:=D2 q V;have hv:Vt C S T v:=⟨v6 ▸ Hx.hm,v2 ▸ Hx.ce,by rw[v3];omega,v4 ▸ Hx.tk,v7 ▸ Byn,v7 ▸ Byo,λ m=>by rw[v2];exact Hx.ac (V ▸ m)⟩;refine ⟨⟨i+1,AT,AQ,⟨⟨⟨h.k.n,g2,h.k.s,by simpa using OS,EM z.k.uo hv,h.k.tl,h.k.t32,h.k.to⟩,?_,z.t.Bxv v q V v4 v5 (λ m=>AQ)⟩,AS,by dsimp only;rw[List.length_append];simp only[List.length_cons,List.length_nil];omega,by dsimp only;rw[Ane hs];exact k4,λ m=>Es (k5 m) (by rw[v8];exact ⟨x1,x2⟩),k6,Y⟩,AQ,by rw[List.length_append];simp only[List.length_cons,List.length_nil];omega,AQ,?_⟩,AQ⟩
     . intro k w p a;rcases EL p with ⟨rfl,rfl⟩ | ⟨EG,p⟩
       . obtain ⟨Z,o2⟩:=z.o _ u q (V ▸ a);rw[v2,v3];exact ⟨Z,λ _=>⟨by rw[x6,Q],I _ u i x q (V ▸ a) (Bk _) hx⟩⟩
       . exact z.o k w p a
     . intro k w j y p a hj H;rcases EL p with ⟨rfl,rfl⟩ | ⟨EG,p⟩
       . rw[v2];exact I _ u j y q (V ▸ a) AQ H
       . exact I k w j y p a AQ H
   refine tG (by split<;>omega) λ _=>tG AQ λ _=>tJ r (tJ r (tJ r ?_));refine tD (λ _=>tD (λ _=>tJ r ?_) λ _=>tJ r ?_) λ _=>tJ r ?_;all_goals
     obtain ⟨f,a3,a4,_⟩:=Bhd _ x.CY;refine tT a3 (tG AQ λ _=>tS (fin _ f rfl rfl rfl rfl rfl rfl rfl a4 ⟨0,rfl,trivial⟩))
def toD(n:Nt)(c:Lm):DX:={n with CP:=c.CP,CQ:=c.CQ,closed:=c.closed,Dm:=c.Dm,CZ:=c.CZ,CN:=c.CN,CR:=c.CR,C6:=c.C6,DV:=[],CO:=[],Fy:=[],DN:=[],DC:=[]}
def CW(C B S U T:Nat)(n:Nt)(c:Lm):Prop:=DW C B S U T (toD n c)
theorem Amr{α β ε:Type}{step}{Q:ε->Prop}(l:List α)(g:α->β)
   (b:∀(acc:List β) (i:Nat) x,l[i]?=some x->acc.length=i->step (acc,(i:Int))=some (.inl (acc++[g x],(i:Int)+1))) (a:DU (step (l.map g,(l.length:Int))) (λ y=>match y with | .inl _=>False | .inr e=>Q e)):DU (C9 step ([],0)) Q:=by
 refine Aw3 l (λ x=>[g x]) ?_ (by rw[To];exact a);intro i x hx;refine b _ i x hx ?_;rw[To,Ct,BK];have:=Fh hx;omega
theorem Mx{C B S U T}{n}{c}(h:CW C B S U T n c):DU (IL c) (λ r=>r=c):=by
 have OS:c.CN.length=U:=h.k.ul;have RX:c.CR.length=T:=h.k.tl;have RY:=h.k.t32;have m:=h.k.k.u8
 have j:c.closed.length=C:=h.k.s.cl;have f:c.Dm.length=C:=h.k.s.bl;have g:c.CZ.length<=B:=h.k.s.pl;have b:=h.k.s.b24;have NJ:=h.k.s.OZ
 unfold IL;refine tB h.k.k.copy ?_;rintro _ rfl;refine tB (Mz _ (-1) AS AS AS) ?_;rintro _ rfl;have a:c.CZ.filter (· != -1)=c.CZ:=by
   rw[List.filter_eq_self];intro x hx;have:=h.k.s.pr x hx;simp;omega
 refine tG AQ λ _=>tB (Amr (Q:=λ e=>e.1=c.CN) c.CN (λ u=>u) ?_ ?_) ?_
 . intro acc i x hx Ao2;have:=Fh hx;have o:=(h.k.uo x (Bt hx)).rl;rw[QY.eq_1,EZ hx,C2 AQ AQ,Bi (by omega:(i:Int)<((c.CN.length:Nat):Int)),Bm,Bd,Bi (by omega:x.Db.length<10000000),Bm,Bi (by omega:acc.length+1<10000000),Bm]
 . rw[QY.eq_1,Bj AQ,Bl];exact tS AT
 . rintro ⟨v,i⟩ l;subst l;refine tS ?_;rw[a];rfl
structure OO(U:Nat)(o:Nc):Prop where
 fl:o.DV.length<=1000
 el:o.CO.length<=30000
 pl:o.Fy.length<=1000
 ll:o.DN.length<=1000
 sl:o.DC.length<=1000
 fr:∀f∈o.DV,0<=f.CY/\f.CY<(U:Int)
 pr:∀g∈o.Fy,0<=g.CY/\g.CY<(U:Int)
 lr:∀x∈o.DN,0<=x/\x<(U:Int)
 sr:∀x∈o.DC,0<=x/\x<(U:Int)
theorem OO.nil{U}:OO U ⟨[],[],[],[],[]⟩:=⟨AT,AT,AT,AT,AT,all_nil,all_nil,all_nil,all_nil⟩
theorem Biy(us):outs us<=us.length:=List.length_filter_le _ _
theorem Afb{C B S U T}{n}{c}(I:NW C B S n)(h:CW C B S U T n c):DU (HF n c) (λ r=>r.2.2=0/\CW C B S U T n r.1/\OO U r.2.1):=by
 have h8:=h.k.k.u8;unfold HF;rw[I.vd,Bd,Bm];refine tB (Mx h) ?_;intro x hx;rw[hx];refine tC (λ _=>tS ⟨rfl,h,OO.nil⟩) λ _=>?_;refine tB (Ag4 h.k AT) ?_;rintro ⟨cl,Dm,pe,E⟩ ⟨N,k2⟩;dsimp only[List.length_nil] at N k2 ⊢;have Tk:DW C B S U T {n with CP:=c.CP,CQ:=c.CQ,closed:=cl,Dm:=Dm,CZ:=pe,CN:=c.CN,CR:=c.CR,C6:=c.C6,DV:=[],CO:=E,Fy:=[],DN:=[],DC:=[]}:=⟨(h.k.Bcl ⟨cl,Dm,pe⟩ N).Am6 E,h.o,h.t⟩;refine tB (Ag0 Tk AS AT) ?_;rintro ⟨o2,q2,a2,e2,Q⟩ ⟨R,m2,m3,V⟩;dsimp only[List.length_nil] at R m2 m3 V ⊢;refine tB (Y5 R AS) ?_;rintro ⟨o3,q3,l,e3⟩ ⟨W,p2⟩;dsimp only at p2;have y:=Biy l;have K:l.length=U:=W.k.ul;refine tB (P:=λ s=>DW C B S U T {n with CP:=s.2.2.2.2.2.1,CQ:=s.2.2.2.2.2.2,closed:=cl,Dm:=Dm,CZ:=pe,CN:=s.1,CR:=s.2.2.2.2.1,C6:=c.C6,DV:=s.2.1,CO:=s.2.2.1,Fy:=s.2.2.2.1,DN:=Q,DC:=[]}/\s.2.2.1.length<=3000/\s.2.1.length<=500/\s.2.2.2.1.length<=10/\(∀f∈s.2.1,0<=f.CY/\f.CY<(U:Int))/\(∀g∈s.2.2.2.1,0<=g.CY/\g.CY<(U:Int)))
   (tL (λ s=>DW C B S U T {n with CP:=s.2.2.2.2.2.1,CQ:=s.2.2.2.2.2.2,closed:=cl,Dm:=Dm,CZ:=pe,CN:=s.1,CR:=s.2.2.2.2.1,C6:=c.C6,DV:=s.2.1,CO:=s.2.2.1,Fy:=s.2.2.2.1,DN:=Q,DC:=[]}/\s.2.2.1.length+200*outs s.1<=1700/\s.2.1.length+48*outs s.1<=400/\s.2.2.2.1.length+outs s.1<=8/\(∀f∈s.2.1,0<=f.CY/\f.CY<(U:Int))/\(∀g∈s.2.2.2.1,0<=g.CY/\g.CY<(U:Int))) (λ s=>outs s.1) ⟨W,AS,by dsimp only[List.length_nil];omega,by dsimp only[List.length_nil];omega,all_nil,all_nil⟩ ?_) ?_
 . rintro ⟨v,fr,e,pu,ts,o,q⟩ ⟨a,r2,r3,r4,m,p⟩;dsimp only at*;refine tB (Apk a AS) ?_;rintro ⟨o4,q4,a3,a1,e4⟩ ⟨s1,s2,s3,s4⟩;dsimp only at s4;refine tB (Ala s1 AS) ?_;rintro ⟨o5,q5,a4,e5⟩ ⟨⟨t1,t2,t3,t4⟩,_⟩;dsimp only at t4;refine tB (Al3 t1 AS) ?_;rintro ⟨o6,q6,z,e6⟩ ⟨⟨v1,v2,v3,v4⟩,_⟩;dsimp only at v4;refine tB (Aps v1 AS AS AS) ?_;rintro ⟨o7,q7,a5,f7,e7,a0⟩ ⟨Y,w2,w3,w4,Z,w6,w7⟩;dsimp only at*;have ho:outs z=outs v:=Ane (by rw[v3,t3,s3]);refine tD (λ heq=>tS ⟨Y,AS,AS,AS,Z m,w6 p⟩) λ EG=>tS ⟨⟨Y,AS,AS,AS,Z m,w6 p⟩,AS⟩
 . rintro ⟨v,fr,e,pu,ts,o,q⟩ ⟨a,r2,r3,r4,m,p⟩;dsimp only at*;refine tB (P:=λ s=>(∀u∈s.1,Vt C S T u)/\s.1.map core=v.map core) (tL (λ s=>((∀u∈s.1,Vt C S T u)/\s.1.map core=v.map core)/\0<=s.2/\s.2<=(U:Int)) (λ s=>((U:Int) - s.2).toNat) ⟨⟨a.k.uo,rfl⟩,AR,AR⟩ ?_) ?_
   . rintro ⟨J8,i⟩ ⟨⟨b,j⟩,x3,x4⟩;have H:J8.length=U:=by have:=B3 List.length j;simp at this;rw[this];exact a.k.ul
     refine tD (λ Dv=>?_) λ _=>tS ⟨b,j⟩;rw[C2 (n:=i+1) AQ AQ];refine tB (LS a.k.k i) λ w _=>tD (λ _=>tI AQ λ u hu UH=>tS ⟨⟨⟨EM b ((b u UH).same _ rfl rfl rfl rfl rfl (b u UH).rt (b u UH).rl),(D2 hu (by rfl)).trans j⟩,AR,AR⟩,AR⟩) λ _=>tS ⟨⟨⟨b,j⟩,AR,AR⟩,AR⟩
   . rintro ⟨J8,_⟩ ⟨b,j⟩;have H:J8.length=U:=by have:=B3 List.length j;simp at this;rw[this];exact a.k.ul
     refine tS ⟨rfl,⟨⟨I,a.k.k,a.k.s,H,b,a.k.tl,a.k.t32,a.k.to⟩,a.o.core j,a.t.core j⟩,⟨AS,AS,AS,AS,AT,m,p,V all_nil,all_nil⟩⟩
theorem Amo{n}{g}(i:GW n g)(a1)(a2)(v:a1.length=n)(h2:0<=a2/\a2<(n:Int)):DU (IC g a1 a2) (λ r=>r.length<=200):=by
 have K:=i.gl;have E:=i.g24
 unfold IC;refine tI AQ λ _ _ _=>tC (λ _=>tS AT) λ _=>?_;obtain ⟨d,u,I,H⟩:=Yf i a1 a2 v h2;rw[u,Bd];refine tB (P:=λ e=>e.1=-1∨(0<=e.1/\e.1<(n:Int)/\∃x,d[e.1.toNat]?=some x/\0<=x)) (tL (λ t=>(t.1=-1∨(0<=t.1/\t.1<(n:Int)/\∃x,d[t.1.toNat]?=some x/\0<=x))/\0<=t.2/\t.2<=24) (λ t=>(24 - t.2).toNat) ⟨Or.inl rfl,AR,AR⟩ ?_) ?_
 . rintro ⟨b,k⟩ ⟨o,S,T⟩;refine tI AQ λ row Ek m=>tD (λ Dv=>tI AQ λ x _ hx=>?_) (λ _=>tS o);have R:=i.gr row m;have KL:=R.2 x hx;rw[C2 AQ AQ];have j:∀a:Int,(a=-1∨(0<=a/\a<(n:Int)/\∃x,d[a.toNat]?=some x/\0<=x))->((a=-1∨(0<=a/\a<(n:Int)/\∃x,d[a.toNat]?=some x/\0<=x))/\0<=k+1/\k+1<=24)/\(24 - (k+1)).toNat<(24 - k).toNat:=λ a hb=>⟨⟨hb,AQ,AQ⟩,AQ⟩;refine tI AQ λ q f _=>tD (λ s=>tD (λ _=>tS (j x (Or.inr ⟨KL.1,KL.2,q,f,s⟩))) λ l=>?_) λ _=>tS (j b o);exact tI AQ λ _ _ _=>tD (λ _=>tS (j x (Or.inr ⟨KL.1,KL.2,q,f,s⟩))) λ _=>tS (j b o)
 . rintro ⟨b,k⟩ hb;refine tD (λ _=>tS AT) λ l=>?_;rcases hb with e | ⟨w,y,x,z,B⟩
   . omega
   refine tB (Zi i _ b a2 v ⟨w,y⟩ h2) λ p N=>?_;have EG:=N.2.2 d x u z B;have Q:0<p.length:=Ca.2 EG;rw[C2 AQ AQ];refine tG EG λ _=>tG AQ λ _=>tG (by rw[BK];simp only[Br,Bx];omega) λ _=>tS ?_;rw[Bw,BK];simp only[Br,Bx];omega
theorem Bbi{n}{g}(a:GW n g)(a1)(l:a1.length=n):DU (JW g a1) (λ r=>0<=r.1/\r.1<=200):=by
 have j:=a.gl;have b:=a.g24
 unfold JW;have f:DU (S3 g a1) (λ _=>True):=by
   unfold S3;exact tB (An5 a) λ _ _=>tC (λ _=>tD (λ _=>tS trivial) λ _=>tS trivial) λ _=>tS trivial
 refine tB f λ _ _=>tD (λ _=>tB (P:=λ e=>e.1.length<=200) (tL (λ s=>s.1.length<=200/\0<=s.2/\s.2<=(n:Int)) (λ s=>((n:Int) - s.2).toNat) ⟨AT,AR,AR⟩ ?_) (λ ⟨v,i⟩ k=>tS (by dsimp only at k ⊢;omega))) λ _=>tS AS;rintro ⟨v,i⟩ ⟨m,p,q⟩;refine tD (λ Dv=>?_) λ _=>tS m;rw[C2 AQ AQ];exact tB (Amo a a1 i l AQ) λ w o=>tD (λ _=>tD (λ _=>tS AR) λ _=>tD (λ _=>tS AR) λ _=>tS AR) λ _=>tS AR
theorem Bbj{C B S}{n}(h:NW C B S n):DU (LU n) (λ _=>True):=by
 have b:=h.nb;have NJ:=h.OZ;have:=h.bc
 unfold LU;rw[h.vd,Bd,Bm,h.cs];refine tG AQ λ _=>tB (Bbi h.g _ AW) ?_;rintro ⟨e,f,i⟩ _;dsimp only;rw[Bd];have a:(decide (0<=(C:Int))&&decide ((C:Int).toNat<10000000))=true:=AW;rw[a,Bm];exact tB (Aiy h _ AT) λ _ _=>tD (λ _=>tS trivial) λ _=>tS trivial
theorem Zj{C B S}{n}(h:NW C B S n)(a):DU (G0 n a) (λ r=>-1<=r/\r<(B:Int)):=by
 have f:=h.nb;have b:=h.g.g24
 unfold G0;refine tB (P:=λ e=>match e with | .inl _=>True | .inr r=>0<=r/\r<(B:Int)) (Nd n.blocks (λ _=>True) trivial ?_ ?_) ?_
 . intro i x hx l _ k;refine tD (λ _=>?_) (λ h=>AQ);rw[EZ hx,Bd,EK AQ AQ (by omega:n.blocks.length<=100000000)];exact tD (λ _=>tS AS) λ _=>tS ⟨rfl,trivial⟩
 . intro _;exact tD (λ h=>AQ) (λ _=>tS trivial)
 . rintro (v | r) j
   . exact tS AQ
   . exact tS (by dsimp only at j;omega)
theorem Yc{C B S}{n}(h:NW C B S n)(a):DU (FL n a) (λ r=>-1<=r/\r<(S:Int)):=by
 have Ue:=h.ns;have f:=h.s6
 unfold FL;refine tB (P:=λ e=>match e with | .inl _=>True | .inr r=>0<=r/\r<(S:Int)) (Nd n.CT (λ _=>True) trivial ?_ ?_) ?_
 . intro i x hx j _ g;refine tD (λ _=>?_) (λ h=>AQ);rw[EZ hx,Bd,EK AQ AQ (by omega:n.CT.length<=100000000)];exact tD (λ _=>tS AS) λ _=>tS ⟨rfl,trivial⟩
 . intro _;exact tD (λ h=>AQ) (λ _=>tS trivial)
 . rintro (v | r) b
   . exact tS AQ
   . exact tS (by dsimp only at b;omega)
theorem Aj0{C B S}{n}(h:NW C B S n)(a):DU (E4 n a) (λ r=>r.length<=10/\∀x∈r,0<=x/\x<(C:Int)):=by
 have f:=h.bc;have Ue:=h.ns;have NJ:=h.OZ
 unfold E4;refine tB (Zj h a) λ x hx=>tD (λ e=>tS ⟨AT,NA AQ⟩) λ _=>tB (Yc h a) λ y l=>?_;refine tB (P:=λ r=>r.1.length<=10/\∀x∈r.1,0<=x/\x<(C:Int)) (tL (λ s=>(s.1.length:Int)=s.2/\(∀x∈s.1,0<=x/\x<(C:Int))/\0<=s.2/\s.2<=4) (λ s=>(5 - s.2).toNat) ⟨AT,all_nil,AR,AR⟩ ?_) (λ ⟨v,i⟩ g=>tS g);rintro ⟨v,i⟩ ⟨k,b,m,o⟩;dsimp only at k;refine tD (λ e=>tI AQ λ s _ j=>?_) λ _=>tS ⟨AR,b⟩;have:=h.sp s j;rw[C2 (n:=s.base+i) AQ AQ,C2 (n:=i+1) AQ AQ];refine tD (λ _=>tG AQ λ _=>tS ⟨⟨by dsimp only;rw[List.length_append];simp only[List.length_cons,List.length_nil];omega,Es b AQ,AR,AR⟩,AR⟩) λ _=>tS ⟨AR,b⟩
structure LW(C B S U T:Nat)(cl:Ac)(Dm pe:Aa)(ts:Ao)(us:Ah):Prop where
 s:SG C B ⟨cl,Dm,pe⟩
 ul:us.length=U
 uh:∀u∈us,-2<=u.Eu/\u.Eu<(S:Int)
 u8:U<=8
 tl:ts.length=T
 t32:T<=32
theorem F3(k):C1 k=some ⟨k,0⟩:=rfl
theorem Arr{C B S U T}{n}(h:NW C B S n){cl}{Dm pe}{Q}{H}(j:LW C B S U T cl Dm pe Q H)(x):DU (P3 n cl Dm pe Q H x) (λ r=>SG C B ⟨cl,Dm,r.2⟩):=by
 have Y:pe.length<=B:=j.s.pl;have m:=h.g.g24;have o:=h.bc;have OS:=j.ul;have h8:=j.u8
 unfold P3;refine tB (Zj h x.a) λ b hb=>tD (λ _=>tT (F3 _) (tS j.s)) λ h0=>?_;have q:DU (EV ⟨cl,Dm,pe⟩) (λ r=>r.length=C/\∀y∈pe,r[y.toNat]?=some true):=by
   have PV:cl.length=C:=j.s.cl;unfold EV;dsimp only;have:=h.OZ;refine tG AQ λ _=>tB (P:=λ e=>e.1.length=C/\∀y∈pe,e.1[y.toNat]?=some true) (tL (λ s=>∃i:Nat,s.2=(i:Int)/\i<=pe.length/\s.1.length=C/\∀y∈pe.take i,s.1[y.toNat]?=some true) (λ s=>pe.length - s.2.toNat) ⟨0,rfl,AQ,PV,AT⟩ ?_) (λ ⟨v,i⟩ V=>tS V);rintro ⟨v,_⟩ ⟨i,rfl,hi,E,N⟩;dsimp only at E;refine tD (λ Dv=>tI (by dsimp only at Dv ⊢;omega) λ y K w=>?_) (λ t=>tS ⟨E,?_⟩)
   . have a0:=j.s.pr y w;refine tI AQ λ _ _ _=>tS ⟨⟨i+1,C2 AQ AQ,by dsimp only at Dv;omega,by simpa using E,?_⟩,by dsimp only;rw[C2 AQ AQ];dsimp only at Dv;omega⟩;rw[Be] at K;rw[Gx K];refine Es (λ z hz=>?_) (gs AQ);rw[BG];split
     . rw[if_pos AQ]
     . exact N z hz
   . dsimp only at t;rwa[BA AQ] at N
 refine tB q λ c l=>tI AQ λ v Z _=>tC (λ _=>tT (F3 _) (tS j.s)) λ u=>tB (Ko H AQ) ?_;rintro ⟨x1,x2,x3⟩ _;refine tB (Aqu h c b x2 l.1 AQ) λ f _=>tC (λ _=>tG AQ λ _=>tT (F3 _) (tS ?_)) λ _=>tT (F3 _) (tS j.s);have p:b∉pe:=by
   intro W;have:=l.2 b W;rw[Z] at this;rw[u] at this;cases this
 have k:(pe++[b]).Nodup:=List.nodup_append.2 ⟨j.s.pn,AT,λ a R c l=>by obtain rfl:=BF.1 l;exact λ e=>p (e ▸ R)⟩;have I:∀y∈pe++[b],0<=y/\y<(B:Int):=Es j.s.pr AQ;exact ⟨j.s.cl,j.s.bl,k,I,YI B _ k I,o,m,h.OZ⟩
theorem As0{C B S U T}{n}(h:NW C B S n){cl}{Dm pe}{o}{k}(b:LW C B S U T cl Dm pe o k)(x):DU (P5 n cl Dm pe o k x) (λ r=>SG C B ⟨r.2.1,r.2.2.1,r.2.2.2⟩):=by
 have PV:cl.length=C:=b.s.cl;have E:Dm.length=C:=b.s.bl;have OS:=b.ul;have R:=b.u8
 unfold P5;refine tB (Aj0 h x.a) λ w l=>tD (λ _=>tT (F3 _) (tS b.s)) λ _=>?_;refine tB (P:=λ e=>match e with | .inl _=>True | .inr r=>SG C B ⟨r.2.1,r.2.2.1,r.2.2.2⟩) (Nd w (λ _=>True) trivial ?_ ?_) ?_
 . intro i y g j _ V;have N:=l.2 y j;refine tD (λ _=>?_) (λ h=>AQ);rw[EZ g,Bd,EK AQ AQ (by omega:w.length<=100000000)];exact tI AQ λ _ _ _=>tI AQ λ _ _ _=>tC (λ _=>tD (λ v=>tD (λ z=>tI ⟨v,z⟩ λ _ _ _=>tD (λ _=>tT (F3 _) (tS b.s)) λ _=>tS ⟨rfl,trivial⟩) λ _=>tS ⟨rfl,trivial⟩) λ _=>tS ⟨rfl,trivial⟩) λ _=>tS ⟨rfl,trivial⟩
 . intro _;exact tD (λ h=>AQ) (λ _=>tS trivial)
 . rintro (_ | r) I
   . refine tB (P:=λ e=>SG C B ⟨e.1,e.2.1,e.2.2.1⟩) (tL (λ s=>SG C B ⟨s.1,s.2.1,s.2.2.1⟩/\0<=s.2.2.2/\s.2.2.2<=(w.length:Int)) (λ s=>((w.length:Int) - s.2.2.2).toNat) ⟨b.s,AR,AR⟩ ?_) ?_
     . rintro ⟨t,q,Q,i⟩ ⟨f,m,W⟩;dsimp only at m;refine tD (λ Dv=>?_) λ _=>tS f;rw[EK m Dv AQ];exact tI AQ λ y _ g=>tB (Ajh _ y f (l.2 y g)) λ s K=>tS ⟨⟨K,AR,AR⟩,AR⟩
     . rintro ⟨t,q,Q,_⟩ f;refine tB (Ko k AQ) ?_;rintro ⟨Y,p,Z⟩ _;refine tB (GV _ b.s) λ c H=>tB (MX h c p H) λ _ _=>tC (λ _=>tB (GV _ f) λ u Xx=>tB (MX h u p Xx) λ _ _=>tC (λ _=>tT (F3 _) (tS f)) λ _=>tT (F3 _) (tS b.s)) λ _=>tT (F3 _) (tS f)
   . exact tS I
theorem Ale(cl)(Dm pe)(ts)(us)(x):DU (SK cl Dm pe ts us x) (λ r=>r.2.length=ts.length/\(r.1.kind=1->0<=x.n/\x.n<(ts.length:Int))):=by
 unfold SK;refine tD (λ _=>tT (F3 _) (tS ⟨rfl,λ h=>by dsimp only at h;omega⟩)) λ _=>tD (λ _=>tT (F3 _) (tS ⟨rfl,λ h=>by dsimp only at h;omega⟩)) λ _=>tI AQ λ _ _ _=>tD (λ _=>tT (F3 _) (tS ⟨rfl,λ h=>by dsimp only at h;omega⟩)) λ _=>tT (F3 _) (tS ⟨AT,λ h=>AQ⟩)
theorem Aa1(ts)(e:ts.length<=1000):DU (HL ts) (λ _=>True):=by
 unfold HL;refine tB (P:=λ _=>True) (tL (λ s=>0<=s.2/\s.2<=(ts.length:Int)) (λ s=>((ts.length:Int) - s.2).toNat) AR ?_) (λ ⟨_,_⟩ _=>tS trivial);rintro ⟨a,i⟩ ⟨b,f⟩;refine tD (λ Dv=>?_) λ _=>tS trivial;rw[EK b Dv AQ];exact tI AQ λ _ _ _=>tD (λ _=>tS AR) λ _=>tS AR
theorem Ari{C B S U T}{n}(h:NW C B S n){cl}{Dm pe}{e}{i}(f:LW C B S U T cl Dm pe e i)(x):DU (YA n cl Dm pe e i x) (λ r=>r.2=e∨(T+1<=32/\∃p d,r.2=e++[⟨p,d,0,-1,0⟩]/\0<=p/\p<(S:Int)/\0<=d/\d<(S:Int))):=by
 have Ue:=h.ns;have RX:=f.tl;have RY:=f.t32
 unfold YA;refine tD (λ _=>tT (F3 _) (tS (Or.inl rfl))) λ _=>tB (Yc h x.a) λ p o=>tB (Yc h x.b) λ d m=>tD (λ _=>tT (F3 _) (tS (Or.inl rfl))) λ k=>tD (λ _=>tT (F3 _) (tS (Or.inl rfl))) λ j=>tI AQ λ _ _ _=>tC (λ _=>tT (F3 _) (tS (Or.inl rfl))) λ _=>tI AQ λ _ _ _=>tC (λ _=>tT (F3 _) (tS (Or.inl rfl))) λ _=>tB (GV _ f.s) λ c g=>tB (TX h c p g AQ) λ _ _=>tC (λ _=>tB (TX h c d g AQ) λ _ _=>tC (λ _=>tB (Aa1 e AQ) λ _ _=>tD (λ _=>tT (F3 _) (tS (Or.inl rfl))) λ _=>tD (λ _=>tT (F3 _) (tS (Or.inl rfl))) λ l=>tG AQ λ _=>tS (Or.inr ⟨AQ,p,d,rfl,AQ,AQ,AQ,AQ⟩)) λ _=>tT (F3 _) (tS (Or.inl rfl))) λ _=>tT (F3 _) (tS (Or.inl rfl))
theorem Ajy(cl)(Dm pe)(ts)(us)(x)(a:us.length<=8):DU (SJ cl Dm pe ts us x) (λ r=>r.2.length=us.length/\(r.1.kind=1->0<=x.n/\x.n<(us.length:Int))):=by
 unfold SJ;refine tD (λ _=>tT (F3 _) (tS ⟨rfl,λ h=>by dsimp only at h;omega⟩)) λ _=>tD (λ _=>tT (F3 _) (tS ⟨rfl,λ h=>by dsimp only at h;omega⟩)) λ _=>tI AQ λ _ _ _=>tD (λ _=>tT (F3 _) (tS ⟨rfl,λ h=>AQ⟩)) λ _=>tD (λ _=>tT (F3 _) (tS ⟨rfl,λ h=>AQ⟩)) λ _=>tC (λ _=>tT (F3 _) (tS ⟨rfl,λ h=>AQ⟩)) λ _=>tB (Ko us AQ) ?_;rintro ⟨b,e,f⟩ _;exact tD (λ _=>tT (F3 _) (tS ⟨rfl,λ h=>AQ⟩)) λ _=>tT (F3 _) (tS ⟨AT,λ h=>AQ⟩)
theorem Amt{C B S U T}{n}(h:NW C B S n){cl}{Dm pe}{f}{i}(e:LW C B S U T cl Dm pe f i)(x):DU (VA n cl Dm pe f i x) (λ r=>r.kind≠1):=by
 have PV:cl.length=C:=e.s.cl;have j:pe.length<=B:=e.s.pl;have:=h.bc;have:=h.g.g24
 unfold VA;exact tB (Zj h x.a) λ b hb=>tD (λ _=>tT (F3 _) (tS AS)) λ _=>tI AQ λ _ _ _=>tC (λ _=>tS AS) λ _=>tB (Mj pe b AQ) λ _ _=>tC (λ _=>tS AS) λ _=>tT (F3 _) (tS AS)
theorem Bb6{C B S U T}{n}(h:NW C B S n){cl}{Dm pe}{g}{b}(f:LW C B S U T cl Dm pe g b)(x):DU (Abe n cl Dm pe g b x) (λ r=>(r.2=b/\r.1.kind≠1)∨(U+1<=8/\r.1.n=(U:Int)/\∃e,r.2=b++[⟨0,false,e,0,0,0,false,false,0,0,[],0,0⟩]/\0<=e/\e<(S:Int))):=by
 have Ue:=h.ns;have OS:=f.ul;have o:=f.u8
 unfold Abe;have no:∀k:Int,k≠1->DU (some ((⟨k,0⟩:OM),b)) (λ r=>(r.2=b/\r.1.kind≠1)∨(U+1<=8/\r.1.n=(U:Int)/\∃e,r.2=b++[⟨0,false,e,0,0,0,false,false,0,0,[],0,0⟩]/\0<=e/\e<(S:Int))):=λ k l=>tS (Or.inl ⟨rfl,l⟩);refine tB (Yc h x.a) λ p q=>tD (λ _=>tT (F3 _) (no 3 AQ)) λ m=>tI AQ λ _ _ _=>tC (λ _=>tB (Bbj h) ?_) λ _=>tT (F3 _) (no 3 AQ);rintro ⟨t,u⟩ _;refine tB (Ko b AQ) ?_;rintro ⟨v,w,y⟩ _;refine tD (λ _=>tT (F3 _) (no 7 AQ)) λ _=>tD (λ _=>tT (F3 _) (no 7 AQ)) λ i=>tB (GV _ f.s) λ c j=>tB (Aj2 b AQ) ?_;rintro _ rfl;refine tB (Wp h c _ p j AW AQ) λ _ _=>tD (λ _=>tT (F3 _) (no 8 AQ)) λ _=>tG AQ λ _=>tS (Or.inr ⟨AQ,?_,p,rfl,AQ,AQ⟩);rw[Bw];simp only[Br,Bx];rw[C2 AQ AQ];omega
theorem Bil:No=YA:=rfl
theorem add_eq:O8=Abe:=rfl
theorem Bca:Mf=VA:=rfl
theorem Awd:KT=SJ:=rfl
theorem Baw:KU=SK:=rfl
def mU(u:KM):KM:=⟨u.state,u.E7,u.Eu,0,0,0,false,false,0,0,[],0,0⟩
theorem Agx{C B}{cl}{Dm pe}(h:SG C B ⟨cl,Dm,pe⟩):pe.filter (· != -1)=pe:=by
 rw[List.filter_eq_self];intro x hx;have:=h.pr x hx;simp;omega
theorem Ami{C B S U T}{l}(h:LW C B S U T l.closed l.Dm l.CZ l.CR l.CN):DU (NG l) (λ r=>r=⟨l.closed,l.Dm,l.CZ,l.CR,l.CN.map mU⟩):=by
 have OS:=h.ul;have RX:=h.tl;have RY:=h.t32;have k:=h.u8
 have g:l.closed.length=C:=h.s.cl;have b:l.Dm.length=C:=h.s.bl;have f:l.CZ.length<=B:=h.s.pl;have a:=h.s.b24;have NJ:=h.s.OZ
 unfold NG;refine tB (Mz _ (-1) AS AS AS) ?_;rintro _ rfl;refine tG AQ λ _=>tB (Amr (Q:=λ e=>e.1=l.CN.map mU) l.CN mU ?_ ?_) ?_
 . intro acc i x hx Ao2;have:=Fh hx;rw[QZ.eq_1,EZ hx,C2 AQ AQ,Bi (by omega:(i:Int)<((l.CN.length:Nat):Int)),Bm,Bd,Bi (by omega:acc.length+1<10000000),Bm];rfl
 . rw[QZ.eq_1,Bj AQ,Bl];exact tS rfl
 . rintro ⟨v,i⟩ j;subst j;refine tS ?_;rw[Agx h.s]
theorem Bbb{C B S U T}{n}{c}(h:CW C B S U T n c):DU (NR c) (λ r=>LW C B S U T r.closed r.Dm r.CZ r.CR r.CN/\r.CN=c.CN.map mU):=by
 have OS:c.CN.length=U:=h.k.ul;have RX:c.CR.length=T:=h.k.tl;have RY:=h.k.t32;have g:=h.k.k.u8
 have m:c.closed.length=C:=h.k.s.cl;have j:c.Dm.length=C:=h.k.s.bl;have l:c.CZ.length<=B:=h.k.s.pl;have f:=h.k.s.b24;have NJ:=h.k.s.OZ
 unfold NR;refine tB (Mz _ (-1) AS AS AS) ?_;rintro _ rfl;refine tG AQ λ _=>tB (P:=λ r=>r.1.length=T) (tL (λ s=>s.1.length=T/\0<=s.2/\s.2<=(T:Int)) (λ s=>((T:Int) - s.2).toNat) ⟨RX,AR,AR⟩ ?_) ?_
 . rintro ⟨v,i⟩ ⟨t,y,z⟩;refine tD (λ Dv=>?_) λ _=>tS t;rw[C2 AQ AQ];exact tI AQ λ _ _ _=>tS AU
 rintro ⟨E,_⟩ a;refine tB (Amr (Q:=λ e=>e.1=c.CN.map mU) c.CN mU ?_ ?_) ?_
 . intro acc i x hx Ao2;have:=Fh hx;rw[Pa.eq_1,EZ hx,C2 AQ AQ,Bi (by omega:(i:Int)<((c.CN.length:Nat):Int)),Bm,Bd,Bi (by omega:acc.length+1<10000000),Bm];rfl
 . rw[Pa.eq_1,Bj AQ,Bl];exact tS rfl
 . rintro ⟨v,i⟩ p;subst p;refine tS ?_;have b:SG C B ⟨c.closed,c.Dm,c.CZ⟩:=h.k.s;rw[Agx b];refine ⟨⟨b,by simpa using OS,?_,g,a,RY⟩,rfl⟩;intro u o;obtain ⟨w,q,rfl⟩:=BS.1 o;exact (h.k.uo w q).hm
structure Blt(C B S U T:Nat)(l:Ldg)(x:Cm4)(o:Ldg×OM):Prop where
 s:SG C B ⟨o.1.closed,o.1.Dm,o.1.CZ⟩
 t:o.1.CR.length=T∨(T+1<=32/\x.kind=1/\o.1.CR.length=T+1/\∃p d,o.1.CR[T]?=some ⟨p,d,0,-1,0⟩/\0<=p/\p<(S:Int)/\0<=d/\d<(S:Int))
 u:o.1.CN.length=U∨(U+1<=8/\x.kind=5/\o.1.CN.length=U+1/\o.2.n=(U:Int)/\∃w,o.1.CN[U]?=some w/\0<=w.Eu/\w.Eu<(S:Int))
 c:o.2.kind=1->x.kind=2->0<=x.n/\x.n<(T:Int)
 r:o.2.kind=1->x.kind=6->0<=x.n/\x.n<(U:Int)
 a:o.2.kind=1->x.kind=5->o.1.CN.length=U+1/\o.2.n=(U:Int)
theorem Aw1{C B S U T}{n}(j:NW C B S n){l}(h:LW C B S U T l.closed l.Dm l.CZ l.CR l.CN)(x):DU (WS n l x) (Blt C B S U T l x):=by
 have RX:=h.tl;have OS:=h.ul;have RY:=h.t32;have H:=h.u8
 unfold WS;refine tB (Ami h) ?_;rintro _ rfl;dsimp only;rw[F3,Bd,Bil,add_eq,Bca,Awd,Baw];have b:(l.CN.map mU).length=U:=by simpa using OS
 have h2:LW C B S U T l.closed l.Dm l.CZ l.CR (l.CN.map mU):=⟨h.s,b,λ u N=>by obtain ⟨w,Q,rfl⟩:=BS.1 N;exact h.uh w Q,H,RX,RY⟩;have same:∀a:OM,a.kind≠1->Blt C B S U T l x (⟨l.closed,l.Dm,l.CZ,l.CR,l.CN.map mU⟩,a):=λ a g=>⟨h.s,Or.inl RX,Or.inl b,λ e=>absurd e g,λ e=>absurd e g,λ e=>absurd e g⟩;refine tD (λ e=>tB (Ari j h2 x) ?_) λ n1=>tD (λ e=>tB (Ale _ _ _ _ _ x) ?_) λ n2=>tD (λ e=>tB (Arr j h2 x) ?_) λ n3=>tD (λ e=>tB (As0 j h2 x) ?_) λ n4=>tD (λ e=>tB (Bb6 j h2 x) ?_) λ n5=>tD (λ e=>tB (Ajy _ _ _ _ _ x AQ) ?_) λ n6=>?_
 . rintro ⟨a,R⟩ r;refine tS ⟨h.s,?_,Or.inl b,λ _ f=>AQ,λ _ f=>AQ,λ _ f=>AQ⟩;rcases r with rfl | ⟨m,p,d,rfl,o⟩
   . exact Or.inl RX
   . exact Or.inr ⟨m,e,by simp[RX],p,d,by dsimp only;rw[List.getElem?_append_right AQ,RX];simp,o⟩
 . rintro ⟨a,R⟩ ⟨m,o⟩;exact tS ⟨h.s,Or.inl (m.trans RX),Or.inl b,λ f _=>by have:=o f;omega,λ _ f=>AQ,λ _ f=>AQ⟩
 . rintro ⟨a,pe⟩ q;exact tS ⟨q,Or.inl RX,Or.inl b,λ _ f=>AQ,λ _ f=>AQ,λ _ f=>AQ⟩
 . rintro ⟨a,c',Z,p'⟩ q;exact tS ⟨q,Or.inl RX,Or.inl b,λ _ f=>AQ,λ _ f=>AQ,λ _ f=>AQ⟩
 . rintro ⟨a,Y⟩ v;rcases v with ⟨rfl,I⟩ | ⟨V,y,K,rfl,W⟩
   . exact tS (same a I)
   . have i:(l.CN.map mU++[(⟨0,false,K,0,0,0,false,false,0,0,[],0,0⟩:KM)]).length=U+1:=by rw[Bw,b];rfl
     exact tS ⟨h.s,Or.inl RX,Or.inr ⟨V,e,i,y,_,by dsimp only;rw[List.getElem?_append_right AQ,b];simp;rfl,W⟩,λ _ f=>AQ,λ _ f=>AQ,λ _ _=>⟨i,y⟩⟩
 . rintro ⟨a,Y⟩ ⟨m,o⟩;exact tS ⟨h.s,Or.inl RX,Or.inl (m.trans b),λ _ f=>AQ,λ f _=>by have:=o f;omega,λ _ f=>AQ⟩
 . refine tD (λ _=>?_) λ _=>tD (λ _=>tB (Amt j h2 x) λ a g=>tS (same a g)) λ _=>tD (λ _=>tB (Ko _ AQ) ?_) λ _=>tD (λ _=>tB (Aa1 _ AQ) λ k _=>tS (same _ AS)) λ _=>tS (same _ AS)
   . rw[F3,Bd];exact tD (λ z=>tD (λ E=>tI ⟨z,E⟩ λ t _ _=>tS (same _ AS)) λ _=>tS (same _ AS)) λ _=>tS (same _ AS)
   . rintro ⟨x1,x2,x3⟩ _;exact tS (same _ AS)
theorem OWN.free{o}{b}(h:OWN o b)(p:∀u∈b,u.state=1->0<=u.cell/\-1<=u.E9){i:Nat}{u}(v)(n:b[i]?=some u)(l:v.state≠1)(o')(g:∀(k:Nat) (x:Int),o[k]?=some x->x≠(i:Int)->o'[k]?=some x):OWN o' (b.set i v):=by
 intro k w e a;rcases EL e with ⟨rfl,rfl⟩ | ⟨EG,e⟩
 . exact absurd a l
 . obtain ⟨m,j⟩:=h k w e a;exact ⟨g _ _ m AQ,λ f=>⟨g _ _ (j f).1 AQ,(j f).2⟩⟩
def Aub(C B S U T:Nat)(d:DX)(r:Aa×Ab×Ac×Aa×Aa×Ah×Ao×Bool×Ak×Aa×Aa):Prop:=
 DW C B S U T {d with CP:=r.1,CQ:=r.2.1,closed:=r.2.2.1,Dm:=r.2.2.2.1,CZ:=r.2.2.2.2.1,CN:=r.2.2.2.2.2.1,CR:=r.2.2.2.2.2.2.1,C6:=r.2.2.2.2.2.2.2.1,CO:=r.2.2.2.2.2.2.2.2.1,DN:=r.2.2.2.2.2.2.2.2.2.1,DC:=r.2.2.2.2.2.2.2.2.2.2}/\r.2.2.2.2.2.2.2.2.1.length<=10000/\r.2.2.2.2.2.2.2.2.2.1.length<=10/\r.2.2.2.2.2.2.2.2.2.2.length<=200/\(∀x∈r.2.2.2.2.2.2.2.2.2.1,0<=x/\x<(U:Int))/\∀x∈r.2.2.2.2.2.2.2.2.2.2,0<=x/\x<(U:Int)
theorem Bcj{C U}{o}{q}(h:LK C U o q)(w)(a)(T:w.length<=100)(l:w.Nodup)(Q:0<=a)(g:∀c∈w,0<=c/\c<(C:Int)/\o[c.toNat]?=some a):DU (C9 (Alb w) (o,q,0)) (λ r=>LK C U r.1 r.2.1/\∀(k:Nat) (x:Int),o[k]?=some x->x≠a->r.1[k]?=some x):=by
 refine tL (λ s=>∃i:Nat,s.2.2=(i:Int)/\i<=w.length/\LK C U s.1 s.2.1/\(∀(j:Nat) x,i<=j->w[j]?=some x->s.1[x.toNat]?=some a)/\∀(k:Nat) (x:Int),o[k]?=some x->x≠a->s.1[k]?=some x) (λ s=>w.length - s.2.2.toNat) ⟨0,rfl,AQ,h,λ j x _ hx=>(g x (Bt hx)).2.2,λ k x hx _=>hx⟩ ?_;rintro ⟨V,W,_⟩ ⟨i,rfl,R,v,z,t⟩;refine tD (λ Dv=>tI AQ λ x hx m=>?_) λ _=>tS ⟨v,t⟩;rw[Be] at hx;obtain ⟨B,E,I⟩:=g x m;have KL:=z i x (Bk _) hx;refine tB (NZ v x ⟨B,E⟩ (by rw[KL];intro e;have:=Bf e;omega)) ?_;rintro _ ⟨rfl,H⟩;refine tS ⟨⟨i+1,C2 AQ AQ,AQ,H,λ j y S b=>?_,λ k y b f=>?_⟩,by dsimp only;rw[C2 AQ AQ];omega⟩
 . dsimp only;have p:=z j y AQ b;obtain ⟨K,N,_⟩:=g y (Bt b);rw[IS];exact p;intro e;have n:x=y:=AQ;have u:=Fh hx;have h2:=Fh b
   rw[Bp u] at hx;rw[Bp h2] at b;exact (List.pairwise_iff_getElem.1 l i j u h2 AQ) (by rw[Bf hx,Bf b,n])
 . dsimp only;rw[IS];exact t k y b f;intro e;have:=t k y b f;rw[<-e,KL] at this;exact f (Bf this).symm
theorem LY{C B S U T}{d}(h:DW C B S U T d)(k:d.CO.length<=900)(Ly:d.DC=[])(e:d.DN.length<=10)(b:∀x∈d.DN,0<=x/\x<(U:Int))(l)(a:l=d.DN):DU (Option.bind (HC d) λ x=>some (x.1,x.2.1,x.2.2.1,x.2.2.2.1,x.2.2.2.2.1,x.2.2.2.2.2.1,x.2.2.2.2.2.2.1,x.2.2.2.2.2.2.2.1,x.2.2.2.2.2.2.2.2.1,l,x.2.2.2.2.2.2.2.2.2)) (Aub C B S U T d):=by
 subst a;refine tB (u0 h AQ (by rw[Ly];simp) (by rw[Ly];exact all_nil)) ?_;rintro ⟨m,n,o,p,q,r,s,t,u,JJ⟩ ⟨f,g,i,j⟩;dsimp only at g;exact tS ⟨f,AS,e,i,b,j⟩
theorem Bgs{C B S U T}{d}(h:DW C B S U T d)(x)(a)(w)(had)(he:d.CO.length<=10)(Ly:d.DC=[])(f:d.DN=[])(Z:w.length<=10)
   (h2:x.kind=2->0<=x.n/\x.n<(T:Int)) (h5:x.kind=5->0<=a.n/\a.n<(U:Int)) (h6:x.kind=6->0<=x.n/\∃u,d.CN[x.n.toNat]?=some u/\had.state=u.state):DU (OD d x a w had) (Aub C B S U T d):=by
 have OS:=h.k.ul;have h8:=h.k.k.u8
 have stay:∀e:Ak,e.length<=10000->Aub C B S U T d (d.CP,d.CQ,d.closed,d.Dm,d.CZ,d.CN,d.CR,d.C6,e,d.DN,d.DC):=λ e h1=>⟨h.re _ _ e _ _ _,h1,by simp[f],by simp[Ly],by rw[f];exact all_nil,by rw[Ly];exact all_nil⟩;unfold OD;refine tD (λ _=>tB (Fj _ 21 a.n 0 AQ) λ e l=>tS (stay e (by have:=l.2;omega))) λ _=>tD (λ e=>?_) λ _=>tD (λ e=>?_) λ _=>tD (λ e=>?_) λ _=>tD (λ e=>?_) λ _=>LY h AQ Ly (by simp[f]) (by rw[f];exact all_nil) _ rfl
 . refine tB (Apt h x.n 4 22 (h2 e) AQ AQ) ?_;rintro ⟨x1,x2,R,x4,x5⟩ ⟨K,Q,k3,k4,k5,k6⟩;dsimp only at k6;exact tS ⟨K,AS,by simp[f],by simp[Ly],by rw[f];exact all_nil,by rw[Ly];exact all_nil⟩
 . refine tB (P:=λ r=>r.1.length<=20) (tL (λ s=>(s.1.length:Int)<=10+s.2/\0<=s.2/\s.2<=(w.length:Int)) (λ s=>((w.length:Int) - s.2).toNat) ⟨AR,AR,AR⟩ ?_) ?_
   . rintro ⟨e1,i⟩ ⟨K,Q,k3⟩;dsimp only at K;refine tD (λ Dv=>?_) λ _=>tS AR;rw[EK Q Dv AQ];refine tI AQ λ y _ _=>tB (Fj _ 20 y 0 AS) λ V l=>tS ?_;have:=l.2;exact AR
   . rintro ⟨e1,_⟩ K;dsimp only at K;exact LY (h.re d.C6 d.DV e1 d.Fy d.DN d.DC) AS Ly (by simp[f]) (by dsimp only;rw[f];exact all_nil) _ rfl
 . have a3:=h5 e;refine tI AQ λ u _ _=>tB (Fj _ 19 a.n u.Eu AQ) λ V l=>?_;exact LY (h.re d.C6 d.DV V d.Fy d.DN d.DC) AS Ly (by simp[f]) (by dsimp only;rw[f];exact all_nil) _ rfl
 . obtain ⟨a1,u,E,a4⟩:=h6 e;have H:0<=x.n/\x.n<(d.CN.length:Int):=by have:=Fh E;omega
   have Hx:=h.k.uo u (Bt E);refine tI H λ v m _=>?_;obtain rfl:u=v:=by rw[E] at m;exact Bf m
   refine tD (λ V=>tB (W1 h.k.k x.n AQ) ?_) λ _=>tD (λ e0=>?_) λ _=>LY h AQ Ly (by simp[f]) (by rw[f];exact all_nil) _ rfl
   . rintro ⟨c,er⟩ ⟨W,Xx,Y⟩;dsimp only at W;have NJ:=h.k.k.OZ;refine tB (Bcj h.k.k c x.n AQ Xx a1 Y) ?_;rintro ⟨o',q',_⟩ ⟨K,Q⟩;refine tJ H ?_;simp only[Cp];refine tB (Y8 _ x.n {u with cell:=-1,E9:=-1} AS (by dsimp only;rw[List.length_set];exact H) (by dsimp only;exact gs (AQ))) ?_;rintro ⟨y1,y2⟩ ⟨p,I⟩;dsimp only at I;rw[Cp] at p;subst p;have q:u.DY<0:=Int.not_le.1 λ g=>by have:=(h.t.b _ u E g).1;omega
     have kd:DW C B S U T {d with CP:=o',CQ:=q',CN:=d.CN.set x.n.toNat {u with cell:=-1,E9:=-1,state:=3,Eu:=-2},CO:=y2,DN:=d.DN++[x.n]}:=
       ⟨⟨h.k.n,K,h.k.s,by simpa using OS,EM h.k.uo ⟨AS,AS,AS,Hx.tk,Hx.rt,Hx.rl,λ g=>by dsimp only at g;omega⟩,h.k.tl,h.k.t32,h.k.to⟩,
         h.o.free (λ w Z a0=>⟨(h.k.uo w Z).ac a0,(h.k.uo w Z).tt.1⟩) _ E AS o' (λ k z hz EG=>Q k z hz AQ),
         h.t.Amy E q AS (by intro g;dsimp only at g;omega) (by intro g;dsimp only at g;omega)⟩
     refine tG (by rw[f];simp) λ _=>?_;exact LY kd AS Ly (by dsimp only;rw[f];simp) (by dsimp only;rw[f];exact NA (AQ)) _ rfl
   . refine tB (Al4 h x.n AQ AQ) ?_;rintro ⟨x1,x2,R,x4⟩ ⟨⟨N,q2,q3,q4⟩,q5⟩;dsimp only at q4;have a2:R.length=U:=N.k.ul;obtain ⟨v,m⟩:∃v,R[x.n.toNat]?=some v:=⟨_,Bp AQ⟩;obtain ⟨u2,MN,hc⟩:=Lk q5 m;rw[E] at MN;cases MN;obtain ⟨c1,c2,c3,c4,c5⟩:=Ny hc;refine tB (Y8 _ x.n v AS AS m) ?_;rintro ⟨y1,y2⟩ ⟨p,I⟩;dsimp only at I;subst p;have j:=N.k.uo v (Bt m);have q:v.DY<0:=Int.not_le.1 λ g=>by have:=(N.t.b _ v m g).1;omega
     have kd:DW C B S U T {d with CP:=x1,CQ:=x2,CN:=R.set x.n.toNat {v with state:=3,Eu:=-2},CO:=y2}:=
       ⟨⟨h.k.n,N.k.k,h.k.s,by simpa using a2,EM N.k.uo ⟨AS,j.ce,j.tt,j.tk,j.rt,j.rl,λ g=>by dsimp only at g;omega⟩,h.k.tl,h.k.t32,h.k.to⟩,
         N.o.Amx _ m (Or.inr AS) rfl rfl,
         N.t.Amy m q AS (by intro g;dsimp only at g;omega) (by intro g;dsimp only at g;omega)⟩
     exact LY kd AS Ly (by dsimp only;rw[f];simp) (by dsimp only;rw[f];exact all_nil) _ rfl
theorem LK.up{C U V}{o}{q}(h:LK C U o q)(e:U<=V)(a:V<=8):LK C V o q:=
 ⟨h.ol,h.ql,h.OZ,a,λ x hx=>by have:=h.ow x hx;omega,λ r b x hx=>by have:=h.qr r b x hx;omega,h.nd,h.no⟩
theorem Vt.up{C S T V}{u}(h:Vt C S T u)(a:T<=V):Vt C S V u:=⟨h.hm,h.ce,h.tt,by have:=h.tk;omega,h.rt,h.rl,h.ac⟩
theorem TOK.up{S U V}{t}(h:TOK S U t)(a:U<=V):TOK S V t:=⟨h.pk,h.dr,λ e=>by have:=h.rb e;omega⟩
theorem Tn{α:Type}{l}{x y:α}{i:Nat}(h:(l++[y])[i]?=some x):l[i]?=some x∨(i=l.length/\x=y):=by
 rw[BZ] at h;split at h
 . exact Or.inl h
 . rename_i Dv;have:i - l.length=0:=by
     have:=Fh h;simp at this;omega
   rw[this] at h;exact Or.inr ⟨AQ,by simpa using h.symm⟩
theorem Abp{α:Type}{l}{x y:α}{i:Nat}(h:l[i]?=some x):(l++[y])[i]?=some x:=by
 rw[Cw (Fh h)];exact h
theorem DW.By2{C B S U T}{d}(h:DW C B S U T d)(v)(r:Vt C S T v)(q:U+1<=8)(h0:v.state=0)(m:v.E9=-1)(h2:v.DY<0):DW C B S (U+1) T {d with CN:=d.CN++[v]}:=by
 have OS:=h.k.ul;refine ⟨⟨h.k.n,h.k.k.up AQ q,h.k.s,by dsimp only;rw[List.length_append,OS];rfl,Es h.k.uo r,h.k.tl,h.k.t32,λ t l=>(h.k.to t l).up AQ⟩,?_,⟨?_,?_,?_,?_⟩⟩
 . intro i u e g;rcases Tn e with e | ⟨_,rfl⟩
   . exact h.o i u e g
   . omega
 . intro j t l g;obtain ⟨u,e,p⟩:=h.t.a j t l g;exact ⟨u,Abp e,p⟩
 . intro i u e f;rcases Tn e with e | ⟨_,rfl⟩
   . exact h.t.b i u e f
   . omega
 . intro i u e f;rcases Tn e with e | ⟨_,rfl⟩
   . exact h.t.c i u e f
   . omega
 . intro i u e f;rcases Tn e with e | ⟨_,rfl⟩
   . exact h.t.d i u e f
   . exact m
theorem DW.By3{C B S U T}{d}(h:DW C B S U T d)(t)(p:TOK S U t)(RY:T+1<=32)(h0:t.state=0):DW C B S U (T+1) {d with CR:=d.CR++[t]}:=by
 have RX:=h.k.tl;refine ⟨⟨h.k.n,h.k.k,h.k.s,h.k.ul,λ u e=>(h.k.uo u e).up AQ,by dsimp only;rw[List.length_append,RX];rfl,RY,Es h.k.to p⟩,h.o,⟨?_,?_,h.t.c,h.t.d⟩⟩
 . intro j x hx m;rcases Tn hx with hx | ⟨_,rfl⟩
   . exact h.t.a j x hx m
   . omega
 . intro i u e l;obtain ⟨f,h2,y,q,g⟩:=h.t.b i u e l;exact ⟨f,h2,y,Abp q,g⟩
theorem Bgz{C B S U T}{n}{d}(h:DW C B S U T d)(Z:NW C B S n)(l)(I:l.CN.length=U∨(U+1<=8/\l.CN.length=U+1/\∃w,l.CN[U]?=some w/\0<=w.Eu/\w.Eu<(S:Int))):DU (C9 (E6 n l) (d.CN,0)) (λ r=>DW C B S l.CN.length T {d with CN:=r.1}/\∀(k:Nat) u,d.CN[k]?=some u->∃w,r.1[k]?=some w/\u.state=w.state):=by
 have h8:=h.k.k.u8;have Ue:=Z.ns
 refine tL (λ s=>∃i V:Nat,s.2=(i:Int)/\i<=l.CN.length/\DW C B S V T {d with CN:=s.1}/\(i<=U->V=U)/\(U<i->V=U+1)/\∀(k:Nat) u,d.CN[k]?=some u->∃w,s.1[k]?=some w/\u.state=w.state) (λ s=>l.CN.length - s.2.toNat) ⟨0,U,rfl,AQ,h,λ _=>rfl,λ E=>AQ,λ k u a=>⟨u,a,rfl⟩⟩ ?_;rintro ⟨v,_⟩ ⟨i,V,rfl,hi,H,k2,k3,N⟩;have K:v.length=V:=H.k.ul;refine tD (λ Dv=>?_) λ _=>tS ?_;rotate_left
 . have:V=l.CN.length:=by rcases I with e | ⟨_,e,_⟩<;>by_cases c:i<=U<;>omega
   subst this;exact ⟨H,N⟩
 rw[EK AQ Dv AQ];have iU:i<=U:=by rcases I with e | ⟨_,e,_⟩<;>omega
 obtain rfl:=k2 iU;have lv:∀(W:Nat) (f:Ah) (u:KM) (b:Bool),DW C B S W T {d with CN:=f}->f[i]?=some u->(∀(k:Nat) u,d.CN[k]?=some u->∃w,f[k]?=some w/\u.state=w.state)->DW C B S W T {d with CN:=f.set i {u with E7:=b}}/\∀(k:Nat) x,d.CN[k]?=some x->∃w,(f.set i {u with E7:=b})[k]?=some w/\x.state=w.state:=by
   intro W f u b q a hk;have Hx:=q.k.uo u (Bt a);have Y:(f.set i {u with E7:=b}).map core=f.map core:=D2 a rfl;refine ⟨⟨q.k.N4 i _ (Hx.same _ rfl rfl rfl rfl rfl Hx.rt Hx.rl),q.o.core Y,q.t.core Y⟩,λ k x hx=>?_⟩;obtain ⟨w,p,g⟩:=hk k x hx;by_cases e:i=k
   . subst e;rw[a] at p;cases p;exact ⟨_,gs (Fh a),g⟩
   . exact ⟨w,by rw[IS e];exact p,g⟩
 refine tD (λ heq=>?_) λ EG=>?_
 . rcases I with e | ⟨u8,e,w,p,a0⟩
   . omega
   have m:i=V:=AQ;subst m;refine tI AQ λ y hy _=>?_;rw[Be,p] at hy;cases hy;refine tI AQ λ s _ g=>tG AQ λ _=>?_;have Xn:=Z.sp s g;have ZV:=H.By2 ⟨0,false,w.Eu,-1,-1,0,false,false,-1,0,[s.base],0,0⟩ ⟨AS,AS,AS,AS,NA AQ,AT,λ E=>by dsimp only at E;omega⟩ u8 rfl rfl AS;have Dr:(v++[(⟨0,false,w.Eu,-1,-1,0,false,false,-1,0,[s.base],0,0⟩:KM)])[i]?=some ⟨0,false,w.Eu,-1,-1,0,false,false,-1,0,[s.base],0,0⟩:=by rw[CI AQ,K];simp
   obtain ⟨Q,R⟩:=lv (i+1) _ _ w.E7 ZV Dr (λ k u a=>by obtain ⟨x,hx,g⟩:=N k u a;exact ⟨x,Abp hx,g⟩);refine tI AW λ z j _=>tS ⟨⟨i+1,i+1,AT,AQ,?_,λ E=>AQ,λ _=>rfl,?_⟩,AS⟩
   . rw[Be,Dr] at j;cases j;exact Q
   . rw[Be,Dr] at j;cases j;exact R
 . have m:i<V:=AQ;refine tI AQ λ y _ _=>tI AQ λ z j _=>tS ?_;obtain ⟨Q,R⟩:=lv V v z y.E7 H j N;exact ⟨⟨i+1,V,AT,AQ,by rw[Be];exact Q,λ _=>rfl,λ E=>AQ,by rw[Be];exact R⟩,AS⟩
theorem Abb{C B S U T}{n}{c}(H:NW C B S n)(h:CW C B S U T n c)(x):DU (K3 n c x) (λ r=>r.2.2.2=0/\∃V W:Nat,U<=V/\CW C B S V W n r.1/\OO V r.2.2.1):=by
 have OS:c.CN.length=U:=h.k.ul;have RX:c.CR.length=T:=h.k.tl;unfold K3;rw[H.vd,Bd,Bm];refine tB (Mx h) ?_;intro c' K;rw[K];refine tB (Bbb h) λ m hm=>tB (Aw1 H hm.1 x) ?_;rintro ⟨l,a⟩ f;have ds:=f.s;have dt:=f.t;have Y:=f.u;have dc:=f.c;have dr:=f.r;have da:=f.a
 dsimp only at*;refine tB (Fj _ 1 a.kind a.n AT) λ e he=>?_;have N:=he.2;dsimp only[List.length_nil] at N;refine tD (λ E=>?_) λ _=>tS ⟨rfl,U,T,Bk _,h,⟨AT,AS,AT,AT,AT,all_nil,all_nil,all_nil,all_nil⟩⟩;have fin:∀(W:Nat) (I:Ao) (b:KM),(∀i:Ah,DW C B S l.CN.length T {n with CP:=c.CP,CQ:=c.CQ,closed:=c.closed,Dm:=c.Dm,CZ:=c.CZ,CN:=i,CR:=c.CR,C6:=c.C6,DV:=[],CO:=[],Fy:=[],DN:=[],DC:=[]}->DW C B S l.CN.length W {n with CP:=c.CP,CQ:=c.CQ,closed:=c.closed,Dm:=c.Dm,CZ:=c.CZ,CN:=i,CR:=I,C6:=c.C6,DV:=[],CO:=[],Fy:=[],DN:=[],DC:=[]})->(x.kind=2->0<=x.n/\x.n<(W:Int))->(x.kind=6->∃u,c.CN[x.n.toNat]?=some u/\b=u)->
     DU (Option.bind (C9 (E6 n l) (c.CN,0)) λ v=>Option.bind (E4 n x.a) λ w=>Option.bind (OD {n with CP:=c.CP,CQ:=c.CQ,closed:=l.closed,Dm:=l.Dm,CZ:=l.CZ,CN:=v.1,CR:=I,C6:=c.C6,DV:=[],CO:=e,Fy:=[],DN:=[],DC:=[]} x a w b) λ y=>some ((⟨y.1,y.2.1,y.2.2.1,y.2.2.2.1,y.2.2.2.2.1,y.2.2.2.2.2.1,y.2.2.2.2.2.2.1,y.2.2.2.2.2.2.2.1⟩:Lm),a,(⟨[],y.2.2.2.2.2.2.2.2.1,[],y.2.2.2.2.2.2.2.2.2.1,y.2.2.2.2.2.2.2.2.2.2⟩:Nc),(0:Int))) (λ r=>r.2.2.2=0/\∃V W:Nat,U<=V/\CW C B S V W n r.1/\OO V r.2.2.1):=by
   intro W I b hW h2 z;refine tB (Bgz h H l ?_) ?_
   . rcases Y with e | ⟨u1,_,u3,_,u5⟩
     . exact Or.inl e
     . exact Or.inr ⟨u1,u3,u5⟩
   rintro ⟨i,_⟩ ⟨k1,k2⟩;refine tB (Aj0 H x.a) λ w hw=>?_;have g:=hW i k1;have R:DW C B S l.CN.length W {n with CP:=c.CP,CQ:=c.CQ,closed:=l.closed,Dm:=l.Dm,CZ:=l.CZ,CN:=i,CR:=I,C6:=c.C6,DV:=[],CO:=e,Fy:=[],DN:=[],DC:=[]}:=⟨⟨g.k.n,g.k.k,ds,g.k.ul,g.k.uo,g.k.tl,g.k.t32,g.k.to⟩,g.o,g.t⟩;refine tB (Bgs R x a w b AS rfl rfl hw.1 h2 (λ e5=>by have:=da E e5;omega) (λ j=>⟨(dr E j).1,?_⟩)) ?_
   . obtain ⟨u,Q,rfl⟩:=z j;exact k2 _ _ Q
   . rintro ⟨y1,y2,y3,y4,y5,y6,y7,y8,y9,a2,a3⟩ ⟨z1,z2,z3,z4,z5,z6⟩;dsimp only at*;refine tS ⟨rfl,l.CN.length,W,?_,z1.re y8 [] [] [] [] [],⟨AT,AS,AT,AS,AS,all_nil,all_nil,z5,z6⟩⟩;rcases Y with e | ⟨u1,_,u3,_,u5⟩<;>omega
 have Bsg:∀b:KM,(x.kind=6->∃u,c.CN[x.n.toNat]?=some u/\b=u)->DU (cond (decide (((c.CR.length:Nat):Int)<((l.CR.length:Nat):Int))) (Option.bind (CU l.CR (i64.wrap (((l.CR.length:Nat):Int) - 1))) λ t=>cond (decide (c.CR.length+1<10000000)) (Option.bind (C9 (E6 n l) (c.CN,0)) λ v=>Option.bind (E4 n x.a) λ w=>Option.bind (OD {n with CP:=c.CP,CQ:=c.CQ,closed:=l.closed,Dm:=l.Dm,CZ:=l.CZ,CN:=v.1,CR:=c.CR++[t],C6:=c.C6,DV:=[],CO:=e,Fy:=[],DN:=[],DC:=[]} x a w b) λ y=>some ((⟨y.1,y.2.1,y.2.2.1,y.2.2.2.1,y.2.2.2.2.1,y.2.2.2.2.2.1,y.2.2.2.2.2.2.1,y.2.2.2.2.2.2.2.1⟩:Lm),a,(⟨[],y.2.2.2.2.2.2.2.2.1,[],y.2.2.2.2.2.2.2.2.2.1,y.2.2.2.2.2.2.2.2.2.2⟩:Nc),(0:Int))) none) (Option.bind (C9 (E6 n l) (c.CN,0)) λ v=>Option.bind (E4 n x.a) λ w=>Option.bind (OD {n with CP:=c.CP,CQ:=c.CQ,closed:=l.closed,Dm:=l.Dm,CZ:=l.CZ,CN:=v.1,CR:=c.CR,C6:=c.C6,DV:=[],CO:=e,Fy:=[],DN:=[],DC:=[]} x a w b) λ y=>some ((⟨y.1,y.2.1,y.2.2.1,y.2.2.2.1,y.2.2.2.2.1,y.2.2.2.2.2.1,y.2.2.2.2.2.2.1,y.2.2.2.2.2.2.2.1⟩:Lm),a,(⟨[],y.2.2.2.2.2.2.2.2.1,[],y.2.2.2.2.2.2.2.2.2.1,y.2.2.2.2.2.2.2.2.2.2⟩:Nc),(0:Int)))) (λ r=>r.2.2.2=0/\∃V W:Nat,U<=V/\CW C B S V W n r.1/\OO V r.2.2.1):=by
   intro b z;refine tD (λ Dv=>?_) λ a0=>?_
   . rcases dt with e1 | ⟨t1,t2,t3,p,q,t4,t5⟩
     . omega
     rw[C2 AQ AQ];refine tI AQ λ t ht _=>?_;rw[show (((l.CR.length:Nat):Int) - 1).toNat=T by omega,t4] at ht;cases ht;refine tG AQ λ _=>fin (T+1) (c.CR++[⟨p,q,0,-1,0⟩]) b (λ i f=>f.By3 _ ⟨AS,AS,λ hh=>by dsimp only at hh;omega⟩ t1 rfl) (λ Z=>AQ) z
   . exact fin T c.CR b (λ i f=>f) (λ Z=>dc E Z) z
 refine tD (λ j=>?_) λ n6=>Bsg _ (λ j=>absurd j n6);have a1:=dr E j;refine tI AQ λ u Q _=>Bsg u (λ _=>⟨u,Q,rfl⟩)
theorem Xe(f):DU (II f) (λ r=>r=true->0<=f.CY/\f.CY<8):=by
 unfold II;have g:DU (JV f.kind) (λ _=>True):=by
   unfold JV;exact tD (λ _=>tS trivial) λ _=>tD (λ _=>tS trivial) λ _=>tS trivial
 refine tB g λ _ _=>tC (λ _=>tD (λ _=>tS (λ e=>by cases e)) λ i=>tD (λ _=>tS (λ e=>by cases e)) λ h2=>?_) λ _=>tS (λ e=>by cases e);have a:∀b:Bool,b=true->0<=f.CY/\f.CY<8:=λ _ _=>AQ;exact tD (λ _=>tS (a _)) λ _=>tD (λ _=>tS (a _)) λ _=>tD (λ _=>tS (a _)) λ _=>tD (λ _=>tS (a _)) λ _=>tD (λ _=>tS (a _)) λ _=>tD (λ _=>tS (a _)) λ _=>tD (λ _=>tS (a _)) λ _=>tS (a _)
theorem CW.N4{C B S U T}{n}{c}(h:CW C B S U T n c){i}{u}(v)(e:c.CN[i]?=some u)(b:core v=core u)(f:Vt C S T v):CW C B S U T n {c with CN:=c.CN.set i v}:=by
 have a:(c.CN.set i v).map core=c.CN.map core:=D2 e b;exact ⟨h.k.N4 i v f,h.o.core a,h.t.core a⟩
theorem Amf{C B S U T}{n}{c}(y:NW C B S n)(h:CW C B S U T n c)(f):DU (LM n c f) (λ r=>r.2.2=0/\CW C B S U T n r.1/\OO U r.2.1):=by
 have OS:c.CN.length=U:=h.k.ul;unfold LM;rw[y.vd,Bd,Bm];refine tB (Mx h) ?_;intro Q i;rw[i];have stay:DU (some (c,(⟨[],[],[],[],[]⟩:Nc),(0:Int))) (λ r=>r.2.2=0/\CW C B S U T n r.1/\OO U r.2.1):=tS ⟨rfl,h,OO.nil⟩;refine tB (Xe f) λ b hb=>tC (λ e=>tD (λ _=>stay) λ _=>tD (λ _=>stay) λ Dv=>?_) λ _=>stay;have R:=hb e;have a:0<=f.CY/\f.CY<(c.CN.length:Int):=AQ;refine tI a λ u j UH=>tD (λ z=>tI a λ v o _=>?_) λ _=>stay;obtain rfl:u=v:=by rw[j] at o;exact Bf o
 have Hx:=h.k.uo u UH;refine tD (λ _=>tD (λ _=>tD (λ _=>tS ⟨rfl,h.N4 {u with LF:=true} j rfl (Hx.same _ rfl rfl rfl rfl rfl Hx.rt Hx.rl),OO.nil⟩) λ _=>stay) λ _=>stay) λ _=>tD (λ _=>stay) λ _=>?_;have m:∀e:Ak,e.length<=30000->OO U ⟨[{f with kind:=3,cell:=0}],e,[],[],[]⟩:=λ e t=>⟨AT,t,AT,AT,AT,NA AS,all_nil,all_nil,all_nil⟩;refine tD (λ _=>?_) λ _=>tS ⟨rfl,h,m [] AT⟩;have s:DW C B S U T {n with CP:=c.CP,CQ:=c.CQ,closed:=c.closed,Dm:=c.Dm,CZ:=c.CZ,CN:=c.CN,CR:=c.CR,C6:=c.C6,DV:=[{f with kind:=3,cell:=0}],CO:=[],Fy:=[],DN:=[],DC:=[]}:=h.re _ _ _ _ _ _;refine tB (Aq0 s f.CY u AQ j z) ?_;rintro ⟨W,Z,g⟩ ⟨l,V⟩;refine tD (λ _=>?_) λ _=>tS ⟨rfl,l.re _ _ _ _ _ _,m [] AT⟩;have x:g.length=U:=l.k.ul;obtain ⟨w,E⟩:∃w,g[f.CY.toNat]?=some w:=⟨_,Bp AQ⟩;refine tB (Apn l f.CY w AQ E AT) ?_;rintro ⟨Y,q2,N,K,q⟩ ⟨p,H,I⟩;dsimp only[List.length_nil] at p H I ⊢;exact tS ⟨rfl,p.re _ _ _ _ _ _,m q AQ⟩
theorem Ajc{C B S U T}{n}{c}(i:NW C B S n)(h:CW C B S U T n c)(a)(g:0<=a/\a<(U:Int)):DU (NS n c a) (λ r=>r.2.2=0/\CW C B S U T n r.1/\OO U r.2.1):=by
 have OS:c.CN.length=U:=h.k.ul;unfold NS;rw[i.vd,Bd,Bm];refine tD (λ h=>AQ) λ _=>tD (λ h=>AQ) λ _=>tB (Mx h) ?_;intro o b;rw[b];refine tI AQ λ u q _=>tD (λ p=>tB (Aij (h.re c.C6 [] [] [] [] []) [a] AT (NA g) AT) ?_) λ _=>tS ⟨rfl,h,OO.nil⟩;rintro ⟨x,y,z,E,H,I,K,N⟩ ⟨e,f,v,w⟩;unfold Aqt toD at e;unfold toD at f;dsimp only[List.length_nil] at e f ⊢;refine tB (u0 e AS AT all_nil) ?_;rintro ⟨Q,R,V,W,Y,Z,y7,y8,y9,m⟩ ⟨j,s,t,l⟩;dsimp only at*;exact tS ⟨rfl,j.re _ _ _ _ _ _,⟨AT,AS,AT,AT,AS,all_nil,all_nil,all_nil,l⟩⟩
theorem WO{C B S U T}{n}{c}(g:NW C B S n)(h:CW C B S U T n c)(a):DU (LL n c a) (λ r=>OO U r.1):=by
 have OS:c.CN.length=U:=h.k.ul;unfold LL;rw[g.vd,Bd,Bm];refine tD (λ _=>tS OO.nil) λ _=>tD (λ _=>tS OO.nil) λ _=>tI AQ λ u _ _=>tD (λ _=>tD (λ _=>tS OO.nil) λ _=>tC (λ _=>tS OO.nil) λ _=>?_) λ _=>tS OO.nil;obtain ⟨f,b,e,_⟩:=Bhd {u with LF:=false} a;exact tT b (tS ⟨AT,AT,AT,AT,AT,NA (by rw[e];omega),all_nil,all_nil,all_nil⟩)
theorem Aew(l)(f):DU (Ku l f) (λ r=>r.length<=6):=by
 unfold Ku;refine tD (λ _=>tS AT) λ _=>tG AQ λ _=>tD (λ _=>tG AQ λ _=>tS ?_) λ _=>tS AQ;rw[Bw];simp only[Br,Bx];omega
theorem Ahc(l)(a):DU (Kq l a) (λ r=>r=true->l.length<=6/\0<=a/\a<(l.length:Int)):=by
 unfold Kq;exact tD (λ _=>tD (λ _=>tS (λ e=>by have:=Bg e;omega)) λ _=>tS (λ e=>by cases e)) λ _=>tS (λ e=>by cases e)
theorem Yg(l)(a):DU (K7 l a) (λ r=>r.2.2=true->r.2.1.length<=6):=by
 unfold K7;refine tB (Ahc l a) λ b hb=>tC (λ e=>?_) λ _=>tS (λ e=>by cases e);have h:=hb e;rw[C2 AQ AQ];refine tI AQ λ x _ _=>tG AQ λ _=>tG AQ λ _=>tG (by rw[BK];omega) λ _=>tG (by simp only[BK,List.length_drop];omega) λ _=>tS (λ _=>?_);simp only[Bw,BK,List.length_drop];omega
theorem Yd(l)(a):DU (Kv l a) (λ r=>r.2=true->r.1.length<=6):=by
 unfold Kv;refine tB (Yg l a) ?_;rintro ⟨x,y,z⟩ h;exact tS h
theorem Ab2(l)(a):DU (MA l a) (λ r=>r.2=true->r.1.length<=6):=by
 unfold MA;refine tB (Ahc l a) λ b hb=>tC (λ e=>tI (hb e).2 λ x _ _=>tB (Aew l x) λ y f=>tS (λ _=>f)) λ _=>tS (λ e=>by cases e)
theorem OJ(b):DU (Fe b) (λ _=>True):=by
 unfold Fe;exact tD (λ _=>tS trivial) λ _=>tD (λ _=>tC (λ _=>tS trivial) λ _=>tS trivial) λ _=>tS trivial
theorem Atm{C B S}{n}(h:NW C B S n)(b)(a c):DU (I8 n b a c) (λ _=>True):=by
 unfold I8;refine tD (λ _=>tS trivial) λ _=>tD (λ _=>tB (OJ b) λ _ _=>tC (λ _=>tB (Aa0 h b.cell c) λ _ _=>tS trivial) λ _=>tS trivial) λ _=>tD (λ _=>tD (λ _=>tS trivial) λ _=>tD (λ _=>tS trivial) λ _=>tS trivial) λ _=>tD (λ _=>tB (OJ b) λ _ _=>tS trivial) λ _=>tD (λ _=>tD (λ _=>tS trivial) λ _=>tC (λ _=>tS trivial) λ _=>tS trivial) λ _=>tD (λ _=>tS trivial) λ _=>tD (λ _=>tS trivial) λ _=>tB (OJ b) λ _ _=>tC (λ _=>tS trivial) λ _=>tS trivial
theorem Ak0{C B S}{n}(h:NW C B S n)(l)(a b c)(g:l.length<=1000):DU (NO n l a b c) (λ r=>r.1.length=l.length):=by
 unfold NO;have f:DU (W7 n l a b c) (λ r=>r.2=0->r.1.length=l.length):=by
   unfold W7;refine tD (λ _=>tS (λ e=>by dsimp only at e;omega)) λ _=>tD (λ _=>tS (λ e=>by dsimp only at e;omega)) λ _=>tD (λ _=>tS (λ e=>by dsimp only at e;omega)) λ _=>tD (λ _=>tS (λ e=>by dsimp only at e;omega)) λ _=>tI AQ λ x _ _=>tB (Atm h x b c) ?_;rintro ⟨y,i⟩ _;exact tC (λ _=>tG AQ λ _=>tS (λ _=>AT)) λ _=>tS (λ e=>by dsimp only at e;omega)
 refine tB f ?_;rintro ⟨x,e⟩ hx;exact tD (λ e=>tS (hx e)) λ _=>tS rfl
theorem Au9(a)(r)(f):DU (P8 a r f) (λ x=>x.2.length<=1):=by
 unfold P8;refine tB (Xe f) λ _ _=>tC (λ _=>tD (λ _=>tD (λ _=>?_) λ _=>tD (λ _=>tD (λ _=>tS AT) λ _=>tD (λ _=>tD (λ _=>tS AT) λ _=>tS AT) λ _=>tS AT) λ _=>tS AT) λ _=>tS AT) λ _=>tS AT;unfold Mh;exact tD (λ _=>tS AT) λ _=>tS AT
theorem Ac3(a)(r):∃l,Ha a r=some l/\l.length=1:=⟨_,rfl,rfl⟩
theorem Bbp(a)(r)(b):DU (N2 a r b) (λ x=>x.length<=1):=by
 unfold N2;obtain ⟨l,e,h2⟩:=Ac3 a r;exact tD (λ _=>tS AT) λ _=>tC (λ _=>tS AT) λ _=>tT e (tS AQ)
theorem Bbk{C B S}{n}(h:NW C B S n)(a)(r)(b):DU (Jc n a r b) (λ x=>x.2.2.length<=1):=by
 unfold Jc;refine tD (λ _=>tS AT) λ _=>tC (λ _=>tS AT) λ _=>tD (λ _=>tB (OJ _) λ _ _=>tC (λ _=>tD (λ _=>tS AT) λ _=>tB (Aa0 h b.cell a.E9) λ _ _=>tC (λ _=>tS AT) λ _=>tS AT) λ _=>tS AT) λ _=>tC (λ _=>?_) λ _=>?_;all_goals
   obtain ⟨l,e,h2⟩:=Ac3 (⟨a.last,-1,a.serve,1,b.E9⟩:Wy) r;exact tT e (tS AS)
theorem Bks(a)(r)(b):DU (N1 a r b) (λ x=>x.2.2.length<=1):=by
 unfold N1;refine tD (λ _=>tS AT) λ _=>tC (λ _=>tC (λ _=>tS AT) λ _=>?_) λ _=>tS AT;obtain ⟨l,e,h2⟩:=Ac3 ({a with Iw:=2,cell:=b.cell}:Wy) r;exact tT e (tS AS)
theorem Bii(U)(a:Int)(l:Au)(up:Aj)(j:up.length=U)(g:∀x∈up,x.length<=6)(n:0<=a/\a<(U:Int))(o:l.length<=1000):DU (C9 (Asr a l) (up,0)) (λ r=>r.1.length=U/\∀x∈r.1,x.length<=6):=by
 refine tL (λ s=>(s.1.length=U/\∀x∈s.1,x.length<=6)/\0<=s.2/\s.2<=(l.length:Int)) (λ s=>((l.length:Int) - s.2).toNat) ⟨⟨j,g⟩,AR,AR⟩ ?_;rintro ⟨v,i⟩ ⟨⟨b,e⟩,m,p⟩;dsimp only at b;refine tD (λ Dv=>?_) λ _=>tS ⟨b,e⟩;rw[EK m Dv AQ];exact tI AQ λ x _ _=>tI AQ λ f _ _=>tB (Aew x f) λ y k=>tS ⟨⟨⟨by dsimp only;rw[List.length_set];exact b,EM e k⟩,AR,AR⟩,AR⟩
structure FQ(U:Nat)(bo:Aw)(ag:Az)(dn up:Aj):Prop where
 b:bo.length=U
 a:ag.length=U
 dl:dn.length=U
 ul:up.length=U
 d6:∀x∈dn,x.length<=6
 u6:∀x∈up,x.length<=6
theorem Auy{U}(f)(h:FQ U f.CV f.CX f.down f.up)(a)(l)(g:0<=a/\a<(U:Int))(j:l.length<=1000):DU (Qs f a l) (λ r=>FQ U f.CV f.CX f.down r):=by
 unfold Qs;exact tB (Bii U a l f.up h.ul h.u6 g j) λ ⟨v,i⟩ e=>tS ⟨h.b,h.a,h.dl,e.1,h.d6,e.2⟩
theorem Adk(f)(a b c)(h:f.G6.length<=1000000):DU (PO f a b c) (λ r=>r.length=f.G6.length+1):=by
 unfold PO;exact tG AQ λ _=>tS AT
def GF.net(f:GF):Nt:=⟨f.blocks,f.next,f.CT,f.C7,f.cq,f.ca,f.cd,f.cp⟩
theorem L4{C B S U}{n}(w:NW C B S n)(f)(W:f.net=n)(h:FQ U f.CV f.CX f.down f.up)(h8:U<=8)(o)(k:OO U o)(hl:f.G6.length<=500000):DU (GP f o) (λ r=>FQ U r.1 r.2.1 r.2.2.1 r.2.2.2.1/\r.2.2.2.2.length<=f.G6.length+35000):=by
 have u:NW C B S f.net:=W ▸ w;have e1:=k.el;have e2:=k.ll;have e3:=k.pl;have e4:=k.fl;have e5:=k.sl
 unfold GP;refine tG AQ λ _=>tB (P:=λ r=>r.2.1.length=U/\r.1.length<=f.G6.length+31000) (tL (λ s=>s.2.1.length=U/\(s.1.length:Int)<=f.G6.length+30000+s.2.2/\0<=s.2.2/\s.2.2<=(o.DN.length:Int)) (λ s=>((o.DN.length:Int) - s.2.2).toNat) ⟨h.b,by dsimp only;rw[List.length_append];omega,AR,AR⟩ ?_) ?_
 . rintro ⟨E,j,i⟩ ⟨I,k2,k3,k4⟩;dsimp only at*;refine tD (λ Dv=>?_) λ _=>tS AR;rw[EK k3 Dv AQ];refine tI AQ λ x _ _=>tB (Ak0 u j x 6 0 AQ) ?_;rintro ⟨H,N⟩ l;refine tB (Adk _ 18 x 0 AS) λ l2 t=>tS ?_;exact AR
 rintro ⟨E,j,_⟩ ⟨I,k2⟩;refine tB (P:=λ r=>FQ U r.2.2.2.2.1 r.1 r.2.1 r.2.2.1/\r.2.2.2.1.length<=f.G6.length+35000) (tL (λ s=>FQ U s.2.2.2.2.1 s.1 s.2.1 s.2.2.1/\(s.2.2.2.1.length:Int)<=f.G6.length+31000+s.2.2.2.2.2/\0<=s.2.2.2.2.2/\s.2.2.2.2.2<=(o.Fy.length:Int)) (λ s=>((o.Fy.length:Int) - s.2.2.2.2.2).toNat) ⟨⟨I,h.a,h.dl,h.ul,h.d6,h.u6⟩,AR,AR,AR⟩ ?_) ?_
 . rintro ⟨Q,T,up,E,j,i⟩ ⟨e,K,m3,m4⟩;dsimp only at*;have w1:=e.a;have w2:=e.dl;have w3:=e.ul;have w4:=e.b
   refine tD (λ Dv=>?_) λ _=>tS ⟨e,AR⟩;rw[EK m3 Dv AQ];refine tI AQ λ g _ Y=>tB (Ak0 u j g.CY 0 g.cell AQ) ?_;have Z:=k.pr g Y;rintro ⟨H,N⟩ l;dsimp only;unfold Il;refine tI AQ λ _ _ _=>tI AQ λ _ _ _=>tI AQ λ _ _ _=>tB (Adk _ 17 g.CY g.cell AS) λ l2 t=>tS ⟨⟨⟨?_,?_,?_,?_,?_,?_⟩,?_,?_,?_⟩,?_⟩;all_goals (try dsimp only at*)
   . omega
   . rw[Bv];omega
   . rw[Bv];omega
   . rw[Bv];omega
   . exact EM e.d6 AT
   . exact EM e.u6 AT
   all_goals omega
 rintro ⟨Q,T,up,E,j,_⟩ ⟨e,K⟩;refine tB (P:=λ r=>r.1.length=U/\∀x∈r.1,x.length<=6) (tL (λ s=>(s.1.length=U/\∀x∈s.1,x.length<=6)/\0<=s.2/\s.2<=(o.DV.length:Int)) (λ s=>((o.DV.length:Int) - s.2).toNat) ⟨⟨e.dl,e.d6⟩,AR,AR⟩ ?_) ?_
 . rintro ⟨v,i⟩ ⟨⟨m,p⟩,p3,p4⟩;dsimp only at m;refine tD (λ Dv=>?_) λ _=>tS ⟨m,p⟩;rw[EK p3 Dv AQ];refine tI AQ λ x _ hx=>?_;have:=k.fr x hx;exact tI AQ λ y _ _=>tB (Aew y x) λ z hz=>tS ⟨⟨⟨by dsimp only;rw[List.length_set];exact m,EM p hz⟩,AR,AR⟩,AR⟩
 rintro ⟨V,_⟩ ⟨m,p⟩;refine tB (P:=λ r=>r.1.length=U) (tL (λ s=>s.1.length=U/\0<=s.2/\s.2<=(o.DC.length:Int)) (λ s=>((o.DC.length:Int) - s.2).toNat) ⟨e.b,AR,AR⟩ ?_) ?_
 . rintro ⟨j,i⟩ ⟨q,r3,r4⟩;dsimp only at q;refine tD (λ Dv=>?_) λ _=>tS q;rw[EK r3 Dv AQ];refine tI AQ λ x _ _=>tB (Ak0 u j x 5 0 AQ) ?_;rintro ⟨H,N⟩ l;exact tS AR
 rintro ⟨R,_⟩ q;exact tS ⟨⟨q,e.a,m,e.ul,p,e.u6⟩,K⟩
structure MW(C B S U T:Nat)(n:Nt)(c:Lm)(bo:Aw)(ag:Az)(dn up:Aj):Prop where
 c:CW C B S U T n c
 q:FQ U bo ag dn up
def GF.ctl(f:GF):Lm:=⟨f.CP,f.CQ,f.closed,f.Dm,f.CZ,f.CN,f.CR,f.C6⟩
theorem Aq6{U V}(c)(q:c.CN.length=V)(o:V<=8)(i:U<=V){f}{e}{g up}(h:FQ U f e g up):DU (C9 (Tq c) (f,e,g,up)) (λ r=>FQ V r.1 r.2.1 r.2.2.1 r.2.2.2):=by
 refine tL (λ s=>∃W:Nat,W<=V/\FQ W s.1 s.2.1 s.2.2.1 s.2.2.2) (λ s=>V - s.1.length) ⟨U,i,h⟩ ?_;rintro ⟨f,e,g,up⟩ ⟨W,p,k⟩;dsimp only at k;have l:=k.b;have h2:=k.a;have m:=k.dl;have n:=k.ul
 refine tD (λ Dv=>tG AQ λ _=>?_) λ j=>tS ?_
 . unfold Il;refine tG AQ λ _=>tG AQ λ _=>tG AQ λ _=>tS ⟨⟨W+1,AQ,?_,?_,?_,?_,Es k.d6 AT,Es k.u6 AT⟩,?_⟩;all_goals (dsimp only;rw[List.length_append];simp only[List.length_cons,List.length_nil];omega)
 . have:W=V:=AQ;subst this;exact k
def Btl(C B S U:Nat)(n:Nt)(c:Lm)(b:Aw)(a:Az)(e up:Aj):Prop:=∃V T:Nat,U<=V/\MW C B S V T n c b a e up
theorem Aku{C B S U T}{f}(i:NW C B S f.net)(h:MW C B S U T f.net f.ctl f.CV f.CX f.down f.up)(x)(I:f.G6.length<=100000):DU (L3 f x) (λ r=>Btl C B S U f.net ⟨r.2.1,r.2.2.1,r.2.2.2.1,r.2.2.2.2.1,r.2.2.2.2.2.1,r.2.2.2.2.2.2.1,r.2.2.2.2.2.2.2.1,r.2.2.2.2.2.2.2.2.1⟩ r.2.2.2.2.2.2.2.2.2.1 r.2.2.2.2.2.2.2.2.2.2.1 r.2.2.2.2.2.2.2.2.2.2.2.1 r.2.2.2.2.2.2.2.2.2.2.2.2.1/\r.2.2.2.2.2.2.2.2.2.2.2.2.2.length<=f.G6.length+35000):=by
 unfold L3;refine tT (show Mg x=some _ from rfl) ?_;refine tB (Abb i h.c _) ?_;rintro ⟨c,a,o,H⟩ ⟨K,V,W,j,e,s⟩;have b:c.CN.length=V:=e.k.ul;have g:=e.k.k.u8;refine tB (Aq6 c b g j h.q) ?_;rintro ⟨z,y,E,up⟩ p;refine tB (L4 (U:=V) i _ (by rfl) (by exact p) g o s AS) ?_;rintro ⟨m,l,n,w,t⟩ ⟨u,v⟩;exact tS ⟨⟨V,W,j,e,u⟩,v⟩
theorem FQ.Awa{U}{f}{e}{g up}(h:FQ U f e g up)(i)(b)(a):FQ U (f.set i b) (e.set i a) g up:=⟨by rw[Bv];exact h.b,by rw[Bv];exact h.a,h.dl,h.ul,h.d6,h.u6⟩
theorem FQ.Bxw{U}{f}{e}{g up}(h:FQ U f e g up)(i)(a):FQ U f (e.set i a) g up:=⟨h.b,by rw[Bv];exact h.a,h.dl,h.ul,h.d6,h.u6⟩
theorem FQ.Bxu{U}{f}{e}{g up}(h:FQ U f e g up)(i)(b):FQ U (f.set i b) e g up:=⟨by rw[Bv];exact h.b,h.a,h.dl,h.ul,h.d6,h.u6⟩
theorem FQ.Art{U}{f}{e}{g up}(h:FQ U f e g up)(i)(l)(j:l.length<=6):FQ U f e (g.set i l) up:=⟨h.b,h.a,by rw[Bv];exact h.dl,h.ul,EM h.d6 j,h.u6⟩
theorem FQ.N4{U}{f}{e}{g up}(h:FQ U f e g up)(i)(l)(j:l.length<=6):FQ U f e g (up.set i l):=⟨h.b,h.a,h.dl,by rw[Bv];exact h.ul,h.d6,EM h.u6 j⟩
def Aqr(C B S U T:Nat)(f:GF)(r:Aa×Ab×Ac×Aa×Aa×Ah×Ao×Bool×Aw×Az×Aj×Aj×Ak):Prop:=
 MW C B S U T f.net ⟨r.1,r.2.1,r.2.2.1,r.2.2.2.1,r.2.2.2.2.1,r.2.2.2.2.2.1,r.2.2.2.2.2.2.1,r.2.2.2.2.2.2.2.1⟩ r.2.2.2.2.2.2.2.2.1 r.2.2.2.2.2.2.2.2.2.1 r.2.2.2.2.2.2.2.2.2.2.1 r.2.2.2.2.2.2.2.2.2.2.2.1/\r.2.2.2.2.2.2.2.2.2.2.2.2.length<=f.G6.length+40000
theorem Ast{C B S U T}{f}(v:NW C B S f.net)(h:MW C B S U T f.net f.ctl f.CV f.CX f.down f.up)(e)(ha:0<=e.a/\e.a<(U:Int))(hl:f.G6.length<=100000):DU (Qt f e) (Aqr C B S U T f):=by
 have hb:=h.q.b;have a1:=h.q.a;have a3:=h.q.dl;have OS:=h.q.ul
 have Y:=h.c.k.k.u8;unfold Qt;have stay:∀(r:Aw) (g:Az) (w up:Aj) (j:Ak),FQ U r g w up->j.length<=f.G6.length+40000->Aqr C B S U T f (f.CP,f.CQ,f.closed,f.Dm,f.CZ,f.CN,f.CR,f.C6,r,g,w,up,j):=λ r g w up j W s=>⟨⟨h.c,W⟩,s⟩;have p:DU (some (f.CP,f.CQ,f.closed,f.Dm,f.CZ,f.CN,f.CR,f.C6,f.CV,f.CX,f.down,f.up,f.G6)) (Aqr C B S U T f):=tS (stay _ _ _ _ _ h.q AQ);have Bsb:∀(x:UO) (l:Au),l.length<=6->DU (Option.bind (LM (⟨f.blocks,f.next,f.CT,f.C7,f.cq,f.ca,f.cd,f.cp⟩:Nt) (⟨f.CP,f.CQ,f.closed,f.Dm,f.CZ,f.CN,f.CR,f.C6⟩:Lm) x) λ y=>Option.bind (GP {f with CP:=y.1.CP,CQ:=y.1.CQ,closed:=y.1.closed,Dm:=y.1.Dm,CZ:=y.1.CZ,CN:=y.1.CN,CR:=y.1.CR,C6:=y.1.C6,up:=f.up.set (Int.toNat e.a) l} y.2.1) λ z=>some (y.1.CP,y.1.CQ,y.1.closed,y.1.Dm,y.1.CZ,y.1.CN,y.1.CR,y.1.C6,z.1,z.2.1,z.2.2.1,z.2.2.2.1,z.2.2.2.2)) (Aqr C B S U T f):=by
   intro x l a0;refine tB (Amf v h.c x) ?_;rintro ⟨c,o,er⟩ ⟨k1,k2,k3⟩;refine tB (L4 (U:=U) v _ (by rfl) (by exact h.q.N4 _ l a0) Y o k3 AS) ?_;rintro ⟨K,I,m,n,R⟩ ⟨E,V⟩;dsimp only at V;exact tS ⟨⟨k2,E⟩,AS⟩
 have t:∀(r:Aw) (g:Az) (w:Aj) (j:Ak) (l:Au),FQ U r g w f.up->j.length<=f.G6.length+40000->l.length<=1->DU (Option.bind (Qs {f with CV:=r,CX:=g,down:=w,G6:=j} e.a l) λ u=>some (f.CP,f.CQ,f.closed,f.Dm,f.CZ,f.CN,f.CR,f.C6,r,g,w,u,j)) (Aqr C B S U T f):=by
   intro r g w j l W s h1;exact tB (Auy _ (by exact W) e.a l ha AQ) λ u hu=>tS (stay _ _ _ _ _ hu s)
 have Bp4:∀(r:Aw) (g:Az) (a b c:Int) (l:Au),FQ U r g f.down f.up->l.length<=1->DU (Option.bind (PO {f with CV:=r,CX:=g} a b c) λ j=>Option.bind (Qs {f with CV:=r,CX:=g,G6:=j} e.a l) λ u=>some (f.CP,f.CQ,f.closed,f.Dm,f.CZ,f.CN,f.CR,f.C6,r,g,f.down,u,j)) (Aqr C B S U T f):=by
   intro r g a b c l W h1;exact tB (Adk _ a b c AS) λ j s=>t r g f.down j l W (by dsimp only at s;omega) h1
 refine tI AQ λ H MM _=>?_;have m:∀{α:Type} (k:Au->Option α) (Q:α->Prop),(∀l,DU (k l) Q)->DU (Option.bind (CU f.down e.a) k) Q:=λ k Q hk=>tI AQ λ l _ _=>hk l;have n:∀{α:Type} (k:Au->Option α) (Q:α->Prop),(∀l,DU (k l) Q)->DU (Option.bind (CU f.up e.a) k) Q:=λ k Q hk=>tI AQ λ l _ _=>hk l;have Z:∀g:Wy,DU (Jc (⟨f.blocks,f.next,f.CT,f.C7,f.cq,f.ca,f.cd,f.cp⟩:Nt) g e.a H) (λ x=>x.2.2.length<=1):=λ g=>Bbk v g e.a H;have Blq:DU (Option.bind (CU f.CX e.a) λ g=>Option.bind (Jc (⟨f.blocks,f.next,f.CT,f.C7,f.cq,f.ca,f.cd,f.cp⟩:Nt) g e.a H) λ y=>Option.bind (CU (f.CV.set (Int.toNat e.a) y.2.1) e.a) λ z=>cond (decide (H.E9=(-1))) (cond (decide (z.E9=(-1))) (Option.bind (Qs {f with CV:=f.CV.set (Int.toNat e.a) y.2.1,CX:=f.CX.set (Int.toNat e.a) y.1} e.a y.2.2) λ u=>some (f.CP,f.CQ,f.closed,f.Dm,f.CZ,f.CN,f.CR,f.C6,(f.CV.set (Int.toNat e.a) y.2.1),(f.CX.set (Int.toNat e.a) y.1),f.down,u,f.G6)) (Option.bind (PO {f with CV:=f.CV.set (Int.toNat e.a) y.2.1,CX:=f.CX.set (Int.toNat e.a) y.1} 14 e.a z.E9) λ j=>Option.bind (Qs {f with CV:=f.CV.set (Int.toNat e.a) y.2.1,CX:=f.CX.set (Int.toNat e.a) y.1,G6:=j} e.a y.2.2) λ u=>some (f.CP,f.CQ,f.closed,f.Dm,f.CZ,f.CN,f.CR,f.C6,(f.CV.set (Int.toNat e.a) y.2.1),(f.CX.set (Int.toNat e.a) y.1),f.down,u,j))) (cond (decide (z.E9=(-1))) (Option.bind (PO {f with CV:=f.CV.set (Int.toNat e.a) y.2.1,CX:=f.CX.set (Int.toNat e.a) y.1} 15 e.a z.cell) λ j=>Option.bind (Qs {f with CV:=f.CV.set (Int.toNat e.a) y.2.1,CX:=f.CX.set (Int.toNat e.a) y.1,G6:=j} e.a y.2.2) λ u=>some (f.CP,f.CQ,f.closed,f.Dm,f.CZ,f.CN,f.CR,f.C6,(f.CV.set (Int.toNat e.a) y.2.1),(f.CX.set (Int.toNat e.a) y.1),f.down,u,j)) (Option.bind (Qs {f with CV:=f.CV.set (Int.toNat e.a) y.2.1,CX:=f.CX.set (Int.toNat e.a) y.1} e.a y.2.2) λ u=>some (f.CP,f.CQ,f.closed,f.Dm,f.CZ,f.CN,f.CR,f.C6,(f.CV.set (Int.toNat e.a) y.2.1),(f.CX.set (Int.toNat e.a) y.1),f.down,u,f.G6)))) (Aqr C B S U T f):=by
   refine tI AQ λ g _ _=>tB (Z g) λ y N=>tI (by rw[Bv];omega) λ z _ _=>tD (λ _=>tD (λ _=>t _ _ f.down f.G6 _ (h.q.Awa _ _ _) AQ N) λ _=>Bp4 _ _ _ _ _ _ (h.q.Awa _ _ _) N) λ _=>tD (λ _=>Bp4 _ _ _ _ _ _ (h.q.Awa _ _ _) N) λ _=>t _ _ f.down f.G6 _ (h.q.Awa _ _ _) AQ N
 have Bsr:DU (Option.bind (CU f.CX e.a) λ g=>Option.bind (N1 g e.a H) λ y=>cond (decide (0<((y.2.2.length:Nat):Int))) (Option.bind (PO {f with CV:=f.CV.set (Int.toNat e.a) y.2.1,CX:=f.CX.set (Int.toNat e.a) y.1} 16 e.a H.cell) λ j=>Option.bind (Qs {f with CV:=f.CV.set (Int.toNat e.a) y.2.1,CX:=f.CX.set (Int.toNat e.a) y.1,G6:=j} e.a y.2.2) λ u=>some (f.CP,f.CQ,f.closed,f.Dm,f.CZ,f.CN,f.CR,f.C6,(f.CV.set (Int.toNat e.a) y.2.1),(f.CX.set (Int.toNat e.a) y.1),f.down,u,j)) (Option.bind (Qs {f with CV:=f.CV.set (Int.toNat e.a) y.2.1,CX:=f.CX.set (Int.toNat e.a) y.1} e.a y.2.2) λ u=>some (f.CP,f.CQ,f.closed,f.Dm,f.CZ,f.CN,f.CR,f.C6,(f.CV.set (Int.toNat e.a) y.2.1),(f.CX.set (Int.toNat e.a) y.1),f.down,u,f.G6))) (Aqr C B S U T f):=by
   refine tI AQ λ g _ _=>tB (Bks g e.a H) λ y N=>tD (λ _=>Bp4 _ _ _ _ _ _ (h.q.Awa _ _ _) N) λ _=>t _ _ f.down f.G6 _ (h.q.Awa _ _ _) AQ N
 refine tD (λ hc=>?_) λ hc=>?_
 . refine tD (λ _=>m _ _ λ l=>tB (Yg l e.b) ?_) λ _=>tD (λ _=>n _ _ λ l=>tB (Yg l e.b) ?_) λ _=>tD (λ _=>m _ _ λ l=>tB (Yd l e.b) ?_) λ _=>tD (λ _=>n _ _ λ l=>tB (Yd l e.b) ?_) λ _=>tD (λ _=>m _ _ λ l=>tB (Ab2 l e.b) ?_) λ _=>tD (λ _=>n _ _ λ l=>tB (Ab2 l e.b) ?_) λ _=>?_
   . rintro ⟨x,y,z⟩ i;exact tC (λ QT=>tS (stay _ _ _ _ _ (h.q.Art _ _ (i QT)) AQ)) λ _=>p
   . rintro ⟨x,y,z⟩ i;exact tC (λ QT=>tD (λ _=>Bsb x y (i QT)) λ _=>tS (stay _ _ _ _ _ (h.q.N4 _ _ (i QT)) AQ)) λ _=>p
   . rintro ⟨x,z⟩ i;exact tC (λ QT=>tS (stay _ _ _ _ _ (h.q.Art _ _ (i QT)) AQ)) λ _=>p
   . rintro ⟨x,z⟩ i;exact tC (λ QT=>tS (stay _ _ _ _ _ (h.q.N4 _ _ (i QT)) AQ)) λ _=>p
   . rintro ⟨x,z⟩ i;exact tC (λ QT=>tS (stay _ _ _ _ _ (h.q.Art _ _ (i QT)) AQ)) λ _=>p
   . rintro ⟨x,z⟩ i;exact tC (λ QT=>tS (stay _ _ _ _ _ (h.q.N4 _ _ (i QT)) AQ)) λ _=>p
   . refine tD (λ _=>tB (WO v h.c e.a) ?_) λ _=>tD (λ _=>?_) λ _=>tD (λ _=>?_) λ _=>tD (λ _=>p) λ _=>p
     . rintro ⟨o,er⟩ ho;refine tB (L4 (U:=U) v _ (by rfl) (by exact h.q) Y o ho AQ) ?_;rintro ⟨K,I,m,n,R⟩ ⟨E,V⟩;dsimp only at V;exact tS (stay _ _ _ _ _ E AQ)
     . exact Blq
     . exact Bsr
 . refine tD (λ _=>m _ _ λ l=>tB (Yg l e.b) ?_) λ _=>tD (λ _=>n _ _ λ l=>tB (Yg l e.b) ?_) λ _=>tD (λ _=>m _ _ λ l=>tB (Yd l e.b) ?_) λ _=>tD (λ _=>n _ _ λ l=>tB (Yd l e.b) ?_) λ _=>tD (λ _=>m _ _ λ l=>tB (Ab2 l e.b) ?_) λ _=>tD (λ _=>n _ _ λ l=>tB (Ab2 l e.b) ?_) λ _=>?_
   . rintro ⟨x,y,z⟩ i;refine tC (λ QT=>tC (λ _=>tS (stay _ _ _ _ _ (h.q.Art _ _ (i QT)) AQ)) λ _=>tI AQ λ g _ _=>tB (Au9 g e.a x) ?_) λ _=>p;rintro ⟨a2,l2⟩ h2;exact t f.CV (f.CX.set (Int.toNat e.a) a2) (f.down.set (Int.toNat e.a) y) f.G6 l2 ((h.q.Bxw _ _).Art _ _ (i QT)) AQ h2
   . rintro ⟨x,y,z⟩ i;exact tC (λ QT=>tD (λ _=>Bsb x y (i QT)) λ _=>tS (stay _ _ _ _ _ (h.q.N4 _ _ (i QT)) AQ)) λ _=>p
   . rintro ⟨x,z⟩ i;exact tC (λ QT=>tS (stay _ _ _ _ _ (h.q.Art _ _ (i QT)) AQ)) λ _=>p
   . rintro ⟨x,z⟩ i;exact tC (λ QT=>tS (stay _ _ _ _ _ (h.q.N4 _ _ (i QT)) AQ)) λ _=>p
   . rintro ⟨x,z⟩ i;exact tC (λ QT=>tS (stay _ _ _ _ _ (h.q.Art _ _ (i QT)) AQ)) λ _=>p
   . rintro ⟨x,z⟩ i;exact tC (λ QT=>tS (stay _ _ _ _ _ (h.q.N4 _ _ (i QT)) AQ)) λ _=>p
   . refine tD (λ _=>tB (WO v h.c e.a) ?_) λ _=>tD (λ _=>Blq) λ _=>tD (λ _=>Bsr) λ _=>tD (λ _=>tC (λ _=>p) λ _=>tB (Ajc v h.c e.a ha) ?_) λ _=>p
     . rintro ⟨o,er⟩ ho;refine tB (L4 (U:=U) v _ (by rfl) (by exact h.q) Y o ho AQ) ?_;rintro ⟨K,I,m,n,R⟩ ⟨E,V⟩;dsimp only at*;have hg:=E.a;refine tI AQ λ g _ _=>tB (Bbp g e.a H) λ l a4=>tB (Auy _ (by exact E) e.a l ha AQ) λ u hu=>tS (stay _ _ _ _ _ hu AQ)
     . rintro ⟨c,o,er⟩ ⟨k1,k2,k3⟩;refine tB (L4 (U:=U) v _ (by rfl) (by exact h.q.Bxu _ _) Y o k3 AS) ?_;rintro ⟨K,I,m,n,R⟩ ⟨E,V⟩;dsimp only at V;exact tS ⟨⟨k2,E⟩,AS⟩
def O1.ctl(s:O1):Lm:=⟨s.CP,s.CQ,s.closed,s.Dm,s.CZ,s.CN,s.CR,s.C6⟩
def MS(C B S U T:Nat)(n:Nt)(s:O1):Prop:=MW C B S U T n s.ctl s.CV s.CX s.down s.up
theorem Ah6{α:Type}(l:List α):l.map (λ x=>x)=l:=AT
theorem Ame{C B S U T}{n}{s}(h:MS C B S U T n s):DU (NF s) (λ r=>r=s):=by
 have p:U<=8:=h.c.k.k.u8;have j:=h.q.b;have l:=h.q.a;have m:=h.q.dl;have o:=h.q.ul
 unfold NF;refine tB (Mx h.c) ?_;intro x hx;rw[hx];refine tG AQ λ _=>tG AQ λ _=>?_;refine tB (Amr (Q:=λ r=>r=(s.down,(s.down.length:Int))) s.down (λ x=>x) ?_ ?_) ?_
 . intro acc i x hx g;have e:=Fh hx;have h2:=h.q.d6 x (Bt hx);rw[QW.eq_1];rw[show decide ((i:Int)<((s.down.length:Nat):Int))=true from Bi AQ,Bm,EZ hx,Bd,show decide (x.length<10000000)=true from Bi AQ,Bm,show decide (acc.length+1<10000000)=true from Bi AQ,Bm];simp (disch:=omega) only[C2]
 . rw[QW.eq_1];refine tD (λ f=>AQ) λ _=>tS (by rw[Ah6])
 rintro _ rfl;refine tB (Amr (Q:=λ r=>r=(s.up,(s.up.length:Int))) s.up (λ x=>x) ?_ ?_) ?_
 . intro acc i x hx g;have e:=Fh hx;have h2:=h.q.u6 x (Bt hx);rw[QX.eq_1];rw[show decide ((i:Int)<((s.up.length:Nat):Int))=true from Bi AQ,Bm,EZ hx,Bd,show decide (x.length<10000000)=true from Bi AQ,Bm,show decide (acc.length+1<10000000)=true from Bi AQ,Bm];simp (disch:=omega) only[C2]
 . rw[QX.eq_1];refine tD (λ f=>AQ) λ _=>tS (by rw[Ah6])
 rintro _ rfl;exact tS rfl
def Btt(C B S U:Nat)(n:Nt)(r:O1×OM×Ak):Prop:=(∃V T:Nat,U<=V/\MS C B S V T n r.1)/\r.2.2.length<=80000
theorem Q9{C B S U T}{n}(a:NW C B S n)(c)(bo)(ag)(dn up)(lg)(h:MW C B S U T n c bo ag dn up)(w:lg.length<=45000)(e:OM):
   DU (Option.bind (HF n c) λ (RN,x68,UQ)=>Option.bind (GP {n with CP:=RN.CP,CQ:=RN.CQ,closed:=RN.closed,Dm:=RN.Dm,CZ:=RN.CZ,CN:=RN.CN,CR:=RN.CR,C6:=RN.C6,CV:=bo,CX:=ag,down:=dn,up:=up,G6:=lg} x68) λ (x71,x72,Kb,x74,x75)=>some ((⟨RN.CP,RN.CQ,RN.closed,RN.Dm,RN.CZ,RN.CN,RN.CR,RN.C6,x71,x72,Kb,x74⟩:O1),e,x75)) (λ r=>MS C B S U T n r.1/\r.2.2.length<=80000):=by
 have i:U<=8:=h.c.k.k.u8;refine tB (Afb a h.c) ?_;rintro ⟨u,o,v⟩ ⟨x,j,l⟩;refine tB (L4 (U:=U) a _ (by rfl) (by exact h.q) i o l AS) ?_;rintro ⟨f,b,g,t,m⟩ ⟨p,s⟩;dsimp only at s;exact tS ⟨⟨j,p⟩,AS⟩
theorem Avz{C B S U T}{n}(g:NW C B S n){s}(h:MS C B S U T n s)(e):DU (IW n s e) (Btt C B S U n):=by
 have z:=h.q.b;unfold IW;refine tB (Ame h) ?_;intro x hx;rw[hx];have stay:∀j:OM,DU _ (Btt C B S U n):=λ j=>tW (Q9 g s.ctl s.CV s.CX s.down s.up [] h AT j) λ r a=>⟨⟨U,T,Bk _,a.1⟩,a.2⟩;refine tD (λ _=>?_) λ _=>tD (λ E=>tD (λ H=>?_) λ _=>stay ⟨0,0⟩) λ _=>stay ⟨0,0⟩
 . refine tB (Aku (T:=T) (f:=⟨n.blocks,n.next,n.CT,n.C7,n.cq,n.ca,n.cd,n.cp,s.CP,s.CQ,s.closed,s.Dm,s.CZ,s.CN,s.CR,s.C6,s.CV,s.CX,s.down,s.up,[]⟩) g h e.text AT) ?_;rintro ⟨j,o,q,cl,Dm,pe,y,w,u,l,k,m,up,t⟩ ⟨⟨V,W,v,p⟩,i⟩;dsimp only at i;rw[Bx] at i;exact tW (Q9 g _ l k m up t p AQ j) λ r a=>⟨⟨V,W,v,a.1⟩,a.2⟩
 . refine tB (Ast (T:=T) (f:=⟨n.blocks,n.next,n.CT,n.C7,n.cq,n.ca,n.cd,n.cp,s.CP,s.CQ,s.closed,s.Dm,s.CZ,s.CN,s.CR,s.C6,s.CV,s.CX,s.down,s.up,[]⟩) g h e AQ AT) ?_;rintro ⟨o,q,cl,Dm,pe,y,w,u,l,k,m,up,t⟩ ⟨p,i⟩;dsimp only at i;rw[Bx] at i;exact tW (Q9 g _ l k m up t p AQ ⟨0,0⟩) λ r a=>⟨⟨U,T,Bk _,a.1⟩,a.2⟩
theorem Aoc{step:Aa×Int->Option ((Aa×Int)⊕(Aa×Int))}(n)(o:n<=1000)
   (l:∀(v:Aa) (i:Int),v.length=n->0<=i->i<(n:Int)->step (v,i)=some (.inl (v.set i.toNat (-1),i+1))) (k:∀v:Aa,v.length=n->step (v,(n:Int))=some (.inr (v,(n:Int)))):
   DU (C9 step (List.replicate n 0,0)) (λ r=>r.1.length=n/\∀x∈r.1,x=-1):=by
 refine tL (λ s=>s.1.length=n/\0<=s.2/\s.2<=(n:Int)/\∀j:Nat,(j:Int)<s.2->s.1[j]?=some (-1)) (λ s=>n - s.2.toNat) ⟨AT,AT,AT,λ j a=>by dsimp only at a;omega⟩ ?_;rintro ⟨v,i⟩ ⟨b,h2,m,f⟩;dsimp only at b;by_cases h:i<(n:Int)
 . rw[l v i b h2 h];refine tS ⟨⟨by rw[Bv];exact b,AS,AS,λ j a=>?_⟩,AS⟩;rw[BG];split
   . rename_i g;rw[if_pos AQ]
   . exact f j AQ
 . obtain rfl:i=(n:Int):=AQ;rw[k v b];refine tS ⟨b,λ x hx=>?_⟩;obtain ⟨j,a⟩:=List.getElem?_of_mem hx;have g:j<v.length:=by
     rcases Nat.lt_or_ge j v.length with e | e
     . exact e
     . rw[List.getElem?_eq_none e] at a;cases a
   rw[f j AQ] at a;exact (Bf a).symm
theorem Arc(C:Nat)(h:C<=48):DU (SP (C:Int)) (λ r=>r.2=0/\r.1.CP.length=C/\(∀x∈r.1.CP,x=-1)/\r.1.CQ=List.replicate C []):=by
 unfold SP;refine tD (λ _=>AQ) λ _=>tD (λ _=>AQ) λ _=>?_;rw[Be,show (decide ((0:Int)<=(C:Int))&&decide (C<10000000))=true from AW,Bm];refine tB (Aoc C AQ ?_ ?_) ?_
 . intro v i a h2 b;rw[T4.eq_1,show decide (i<(C:Int))=true from Bi b,Bm];have e:i.toNat<v.length:=AQ;unfold CU;rw[if_pos h2,Bp e,Bd];simp (disch:=omega) only[C2]
 . intro v a;rw[T4.eq_1,show decide ((C:Int)<(C:Int))=false from AT,Bl]
 rintro ⟨v,i⟩ ⟨a,h2⟩;exact tS ⟨rfl,a,h2,rfl⟩
theorem Arb{C B S}{n}(a:NW C B S n):DU (Mw n) (λ r=>r.2=0/\SG C B r.1):=by
 have NJ:=a.OZ;have e:=a.bc;have hb:=a.g.g24
 unfold Mw;rw[a.vd,Bd,Bm,a.cs,Bd,Bd,Be,show (decide ((0:Int)<=(C:Int))&&decide (C<10000000))=true from AW,Bm];refine tB (Aoc C AQ ?_ ?_) ?_
 . intro v i b h2 j;rw[Np.eq_1,show decide (i<((v.length:Nat):Int))=true from Bi AQ,Bm];have f:i.toNat<v.length:=AQ;unfold CU;rw[if_pos h2,Bp f,Bd];simp (disch:=omega) only[C2]
 . intro v b;rw[Np.eq_1,show decide ((C:Int)<((v.length:Nat):Int))=false from AW,Bl]
 rintro ⟨v,i⟩ ⟨b,h2⟩;exact tS ⟨rfl,AT,b,AT,AT,AT,e,hb,NJ⟩
theorem Ar9{C B S}{n}(k:NW C B S n):DU (SI n) (λ r=>r.2=0/\CW C B S n.C7.length 0 n r.1):=by
 have NJ:=k.OZ;have U:=k.rl
 unfold SI;refine tB (Arb k) ?_;rintro ⟨s,e⟩ ⟨rfl,hs⟩;refine tD (λ _=>?_) λ h=>absurd rfl h;rw[k.cs,Bd];refine tB (Arc C NJ) ?_;rintro ⟨⟨ow,qu⟩,e⟩ ⟨rfl,h1,h2,rfl⟩;refine tD (λ _=>?_) λ h=>absurd rfl h;refine tB (P:=λ r=>r.1.length=C/\r.2.1.length=n.C7.length/\(∀o∈r.1,-1<=o/\o<(n.C7.length:Int))/\(∀(j:Nat) u,r.2.1[j]?=some u->u.state=1/\u.E9=-1/\u.DY=-1/\u.Du=0/\Vt C S 0 u/\r.1[u.cell.toNat]?=some (j:Int))) (tL (λ s=>s.1.length=C/\(s.2.1.length:Int)=s.2.2/\s.2.2<=(n.C7.length:Int)/\(∀o∈s.1,-1<=o/\o<s.2.2)/\(∀(j:Nat) u,s.2.1[j]?=some u->u.state=1/\u.E9=-1/\u.DY=-1/\u.Du=0/\Vt C S 0 u/\s.1[u.cell.toNat]?=some (j:Int)/\n.C7[j]?=some u.cell)) (λ s=>n.C7.length - s.2.1.length) ⟨h1,AT,AT,λ o m=>by rw[h2 o m];simp,λ j u g=>by simp at g⟩ ?_) ?_
 . rintro ⟨v,H,i⟩ ⟨I,Y,k3,l,k5⟩;dsimp only at*;refine tD (λ Dv=>?_) λ a1=>tS ?_
   . refine tI AQ λ x hx W=>?_;have p:=k.rr x W;refine tI AQ λ _ _ _=>tB (Ab0 k x AQ) λ d T=>tB (XD k x AQ) λ f hf=>tG AQ λ _=>tS ⟨⟨?_,?_,?_,?_,?_⟩,?_⟩
     . rw[Bv];exact I
     . simp (disch:=omega) only[C2];rw[Bw,CL];omega
     . simp (disch:=omega) only[C2];omega
     . simp (disch:=omega) only[C2];exact EM (λ o m=>by have:=l o m;omega) AQ
     . dsimp only;intro j u g;rcases Nat.lt_or_ge j H.length with y | y
       . rw[Cw y] at g;obtain ⟨K,z,N,Q,R,E,w⟩:=k5 j u g;refine ⟨K,z,N,Q,R,?_,w⟩;rw[BG,if_neg ?_]
         . exact E
         . intro hc;have a0:=k.rr _ (Bt w);have ZW:x=u.cell:=AQ;rw[<-ZW] at w;have h7:j<n.C7.length:=AQ;have h8:i.toNat<n.C7.length:=AQ;rw[Bp h7] at w;rw[Bp h8] at hx;have h9:=(List.getElem_inj k.rn).1 ((Bf w).trans (Bf hx).symm);omega
       . rw[CI y] at g;obtain ⟨a2,MN⟩:j=H.length/\_=u:=by
           cases T:j - H.length with
           | zero=>rw[T] at g;exact ⟨AQ,Bf g⟩
           | succ q=>rw[T] at g;simp at g
         subst MN;refine ⟨rfl,rfl,rfl,rfl,⟨AS,AS,AS,AS,hf.2,by have:=hf.1;dsimp only;omega,λ _=>AS⟩,?_,?_⟩
         . dsimp only;rw[BG,if_pos rfl,if_pos AQ];rw[show i=(j:Int) by omega]
         . dsimp only;rw[show j=i.toNat by omega];exact hx
     . dsimp only;rw[List.length_append,List.length_singleton];omega
   . have:i=(n.C7.length:Int):=AQ;subst this;exact ⟨I,AS,l,λ j u g=>by
       obtain ⟨K,z,N,Q,R,E,w⟩:=k5 j u g;exact ⟨K,z,N,Q,R,E⟩⟩
 rintro ⟨v,H,i⟩ ⟨I,Y,k3,l⟩;dsimp only at Y;unfold Ir IV;refine tB (P:=λ _=>True) (tB (Ko H AQ) ?_) ?_
 . rintro ⟨a,b,c⟩ _;refine tB (P:=λ r=>r.length=C) (tB (GV _ hs) λ r p=>tS p) λ cc ZW=>tB (MX k cc b ZW) λ _ _=>tC (λ _=>tS trivial) λ _=>tS trivial
 . intro ok _;refine tS ⟨rfl,?_,?_,?_⟩
   . refine ⟨k,⟨I,by simp[toD],NJ,U,k3,?_,?_,?_⟩,hs,Y,?_,rfl,AQ,?_⟩
     . intro row p x hx;rw[(List.mem_replicate.1 p).2] at hx;cases hx
     . show (List.replicate C ([]:Aa)).flatten.Nodup
       simp
     . intro i o row _ p m;have:=(List.mem_replicate.1 (Bt p)).2;rw[this] at m;cases m
     . intro u g;obtain ⟨j,y⟩:=List.getElem?_of_mem g;exact (l j u y).2.2.2.2.1
     . intro t V;cases V
   . intro i u g _;obtain ⟨K,z,N,Q,R,E⟩:=l i u g;exact ⟨E,λ h=>absurd z h⟩
   . refine ⟨λ j t V=>?_,λ i u g Z=>?_,λ i u g _ Z=>?_,λ i u g Z=>?_⟩
     . simp[toD] at V
     . have:=(l i u g).2.2.1;omega
     . have:=(l i u g).2.2.2.1;omega
     . have:=(l i u g).1;omega
theorem Ar7{C B S}{n}(f:NW C B S n):DU (SH n) (λ r=>r.2=0/\MS C B S n.C7.length 0 n r.1):=by
 have p:=f.rl;unfold SH;refine tB (Ar9 f) ?_;rintro ⟨c,e⟩ ⟨rfl,m⟩;refine tD (λ _=>?_) λ h=>absurd rfl h;refine tB (P:=λ r=>FQ n.C7.length r.1 r.2.1 r.2.2.1 r.2.2.2.1) (tL (λ s=>∃W:Nat,s.2.2.2.2=(W:Int)/\W<=n.C7.length/\FQ W s.1 s.2.1 s.2.2.1 s.2.2.2.1) (λ s=>n.C7.length - s.1.length) ⟨0,rfl,AQ,rfl,rfl,rfl,rfl,all_nil,all_nil⟩ ?_) ?_
 . rintro ⟨j,g,l,up,i⟩ ⟨W,q,w,k⟩;dsimp only at q k;have t:=k.b;have h2:=k.a;have u:=k.dl;have v:=k.ul
   refine tD (λ Dv=>?_) λ o=>tS ?_
   . refine tI AQ λ x _ _=>tG AQ λ _=>?_;unfold Il;refine tG AQ λ _=>tG AQ λ _=>tG AQ λ _=>tS ⟨⟨W+1,?_,AQ,?_,?_,?_,?_,Es k.d6 AT,Es k.u6 AT⟩,?_⟩
     . simp (disch:=omega) only[C2];omega
     all_goals (dsimp only;rw[List.length_append];simp only[List.length_cons,List.length_nil];omega)
   . have:W=n.C7.length:=AQ;subst this;exact k
 rintro ⟨j,g,l,up,i⟩ k;exact tS ⟨rfl,m,k⟩
theorem Jo(l)(i m)(f:0<=i/\i<1000000000)(g:m<1000000):DU (Dh l i m) (λ r=>0<=r.1/\(1<=m->r.1<m)/\r.2.1=l/\r.2.2=i+1):=by
 have cut:∀x:Int,DU (LI x m) (λ r=>0<=r/\(1<=m->r<m)):=by
   intro x;unfold LI;refine tD (λ _=>tS ⟨AQ,λ _=>AQ⟩) λ b=>tG AQ λ _=>?_;have h2:=Int.tmod_lt_of_pos x (show 0<m by omega);have e:=Int.lt_tmod_of_pos x (show 0<m by omega);refine tD (λ _=>tS ?_) λ _=>tS ⟨AQ,λ _=>AQ⟩;rw[C2 AQ AQ];exact ⟨AQ,λ _=>AQ⟩
 unfold Dh;refine tD (λ _=>tI AQ λ x _ _=>tB (cut x) λ r a=>tS ⟨a.1,a.2,rfl,?_⟩) λ _=>tB (cut _) λ r a=>tS ⟨a.1,a.2,rfl,?_⟩;all_goals (dsimp only;rw[C2 AQ AQ])
def W0(w:Ad):Prop:=w≠[]/\w.length<=12/\∀c∈w,(97<=c.toNat/\c.toNat<=122)∨(48<=c.toNat/\c.toNat<=57)
def jn:Ae->Ad
 | []=>[]
 | [w]=>w
 | w::r=>w++32::jn r
def OTx(t:Ad):Prop:=∃a:Ae,1<=a.length/\a.length<=3/\(∀w∈a,W0 w)/\t=jn a
def Ll(e:HW):Prop:=(e.kind=1/\e.a=0/\e.b=0/\OTx e.text)∨(2<=e.kind/\e.kind<=11/\0<=e.a/\e.a<=8/\0<=e.b/\e.b<=6/\e.text=[]/\(8<=e.kind->e.b=0))
theorem OTx.one{w}(h:W0 w):OTx w:=⟨[w],AT,AT,by simp[h],rfl⟩
theorem OTx.two{v w}(a:W0 v)(h:W0 w):OTx (v++32::w):=⟨[v,w],AT,AT,by simp[a,h],rfl⟩
theorem OTx.three{u v w}(a:W0 u)(b:W0 v)(h:W0 w):OTx (u++32::(v++32::w)):=⟨[u,v,w],AT,AT,by simp[a,b,h],rfl⟩
structure NMS(n:Nt):Prop where
 b:∀x∈n.blocks,W0 x.name
 s:∀x∈n.CT,W0 x.name
 s3:3<=n.CT.length
theorem SX{n}(h:NMS n)(k:n.CT.length<=6)(l)(i)(m:0<=i/\i<900000000):DU (DM l i n) (λ r=>W0 r.1/\r.2.1=l/\i<=r.2.2/\r.2.2<=i+3):=by
 have j:=h.s3;unfold DM;refine tB (Jo l i _ AQ AQ) ?_;rintro ⟨x,g,b⟩ ⟨e,f,rfl,rfl⟩;refine tI AQ λ s _ a=>tC (λ _=>tB (Jo _ _ _ AQ AQ) ?_) λ _=>tS ⟨h.s s a,rfl,AS,AS⟩;rintro ⟨x,g,b⟩ ⟨e,f,rfl,rfl⟩;refine tD (λ _=>tB (Jo _ _ _ AQ AQ) ?_) λ _=>tS ⟨h.s s a,rfl,AS,AS⟩;rintro ⟨x,g,b⟩ ⟨e,f,rfl,rfl⟩;dsimp only;rw[C2 AQ AQ];exact tI AQ λ s _ a=>tS ⟨h.s s a,rfl,AS,AS⟩
theorem Al7(x)(h:0<=x/\x<10):DU (V6 x) (λ r=>W0 r):=by
 unfold V6;rw[if_pos AQ,Bgo x h.1 h.2];refine tS ⟨AT,AT,λ c a=>?_⟩;rw[BF.1 a];right;rw[UInt8.toNat_ofNat'];omega
theorem A4{p:Prop}(h:p:=by simp only[Bw,CL];omega):p:=h
theorem Bba{C B S}{n}(I:NW C B S n)(h:NMS n)(l)(i)(hi:0<=i/\i<100000000):DU (MG l i n) (λ r=>OTx r.1/\r.2.1=l/\i<=r.2.2/\r.2.2<=i+10):=by
 have hb:=I.nb;have a0:=I.b1;have a1:=I.g.g24;have h6:=I.s6;have Ue:=I.ns
 have t:n.CT.length<=6:=AQ;have h3:=h.s3;have By1:∀(p:Ad),W0 p->∀(q:Ad),p++[32]=q->∀j e,j<=i+4->i<=j->DU (Option.bind (DM e j n) λ (Px,Aqy,Bma)=>cond (decide (q.length+Px.length<10000000)) (cond (decide ((q++Px).length+[(32:UInt8)].length<10000000)) (Option.bind (DM Aqy Bma n) λ (Aqx,Alu,Bbt)=>cond (decide (((q++Px)++[32]).length+Aqx.length<10000000)) (some (((((q++Px)++[32])++Aqx),Alu,Bbt):Ad×Aa×Int)) none) none) none) (λ r=>OTx r.1/\r.2.1=e/\i<=r.2.2/\r.2.2<=i+10):=by
   intro p f q z j e v y;have U:=f.2.1;have V:q.length=p.length+1:=by rw[<-z];simp
   refine tB (SX h t e j AQ) ?_;rintro ⟨a,N,W⟩ ⟨Q,rfl,m3,m4⟩;dsimp only at*;have m5:=Q.2.1;refine tG AQ λ _=>tG A4 λ _=>tB (SX h t N W AQ) ?_;rintro ⟨b,l4,j4⟩ ⟨Y,rfl,n3,n4⟩;dsimp only at*;have n5:=Y.2.1;refine tG A4 λ _=>tS ⟨?_,rfl,AS,AS⟩;rw[<-z];have:=OTx.three f Q Y
   simpa using this
 have two:∀(p:Ad),W0 p->∀(q:Ad),p++[32]=q->∀w,W0 w->∀j e,j<=i+10->i<=j->DU (cond (decide (q.length+w.length<10000000)) (some ((q++w,e,j):Ad×Aa×Int)) none) (λ r=>OTx r.1/\r.2.1=e/\i<=r.2.2/\r.2.2<=i+10):=by
   intro p f q z w o j e v y;have U:=f.2.1;have a3:=o.2.1
   have V:q.length=p.length+1:=by rw[<-z];simp
   refine tG AQ λ _=>tS ⟨?_,rfl,y,v⟩;rw[<-z];have:=OTx.two f o
   simpa using this
 have k:∀p:Ad,(p≠[]/\p.length<=12/\p.all (λ c=>(97<=c.toNat&&c.toNat<=122))=true)->W0 p:=by
   intro p f;refine ⟨f.1,f.2.1,λ c hc=>?_⟩;have:=BB.1 f.2.2 c hc;simp only[Bz,BI] at this;exact .inl this
 have wt:=k [116,97,115,107] AV;have Bwa:=k [99,97,110,99,101,108] AV;have Bqe:=k [99,108,111,115,101] AV;have Bqc:=k [111,112,101,110] AV;have Bwc:=k [97,100,100] AV;have Bw6:=k [114,101,109,111,118,101] AV;have Bw5:=k [115,116,97,116,117,115] AV;have Bwb:=k [98,108,111,99,107] AV;have Bw9:=k [102,108,101,101,116] AV;have Bw7:=k [113,117,101,117,101] AV;unfold MG;refine tB (Jo l i _ AQ AQ) ?_;rintro ⟨x,e,i2⟩ ⟨k1,k2,rfl,rfl⟩;refine tI AQ λ R _ u=>tB (Jo _ _ _ AQ AQ) ?_;rintro ⟨x9,e,i2⟩ ⟨k4,k5,rfl,rfl⟩;have Agw:=By1 _ wt [116,97,115,107,32] rfl (i+1+1) e AQ AQ;have next:∀m:Int,1<=m->m<1000->∀(K:Int×Aa×Int->Option (Ad×Aa×Int)),(∀x:Int,0<=x->x<m->DU (K (x,e,i+3)) (λ r=>OTx r.1/\r.2.1=e/\i<=r.2.2/\r.2.2<=i+10))->DU (Option.bind (Dh e (i+1+1) m) K) (λ r=>OTx r.1/\r.2.1=e/\i<=r.2.2/\r.2.2<=i+10):=by
   intro m T a2 K Z;refine tB (Jo _ _ _ AQ AQ) ?_;rintro ⟨x,N,i3⟩ ⟨E,H,q3,q4⟩;dsimp only at*;have q5:=H T;rw[q3,q4,show i+1+1+1=i+3 by omega];exact Z x E q5
 refine tD (λ _=>Agw) λ _=>tD (λ _=>Agw) λ _=>tD (λ _=>Agw) λ _=>tD (λ _=>Agw) λ _=>tD (λ _=>Agw) λ _=>tD (λ _=>Agw) λ _=>?_;have sta:∀(p:Ad),W0 p->∀(q:Ad),p++[32]=q->∀j,j<=i+4->i<=j->DU (Option.bind (DM e j n) λ (ON,T0,O4)=>cond (decide (q.length+ON.length<10000000)) (some ((q++ON,T0,O4):Ad×Aa×Int)) none) (λ r=>OTx r.1/\r.2.1=e/\i<=r.2.2/\r.2.2<=i+10):=by
   intro p f q z j v y;refine tB (SX h t e j AQ) ?_;rintro ⟨a,N,W⟩ ⟨Q,rfl,m3,m4⟩;dsimp only at*;exact two p f q z a Q W N AQ AQ
 refine tD (λ _=>next 6 AQ AQ _ λ x E H=>tB (Al7 x AQ) λ w o=>two _ Bwa _ rfl w o (i+3) e AQ AQ) λ _=>?_;refine tD (λ _=>two _ Bqe _ rfl _ (h.b R u) _ e AQ AQ) λ _=>?_;refine tD (λ _=>next 2 AQ AQ _ λ x E H=>tD (λ _=>sta _ Bqc _ rfl (i+3) AQ AQ) λ _=>two _ Bqc _ rfl _ (h.b R u) (i+3) e AQ AQ) λ _=>?_;refine tD (λ _=>next _ AQ AQ _ λ x E H=>tI AQ λ s _ hs=>two _ Bwc _ rfl _ (h.s s hs) (i+3) e AQ AQ) λ _=>?_;refine tD (λ _=>next 4 AQ AQ _ λ x E H=>tB (Al7 x AQ) λ w o=>two _ Bw6 _ rfl w o (i+3) e AQ AQ) λ _=>?_;refine tD (λ _=>next 6 AQ AQ _ λ x E H=>tB (Al7 x AQ) λ w o=>two _ Bw5 _ rfl w o (i+3) e AQ AQ) λ _=>?_;refine tD (λ _=>two _ Bwb _ rfl _ (h.b R u) _ e AQ AQ) λ _=>?_;refine tD (λ _=>tS ⟨OTx.one Bw9,rfl,AS,AS⟩) λ _=>tD (λ _=>tS ⟨OTx.one Bw7,rfl,AS,AS⟩) λ _=>?_;exact sta _ Bqe _ rfl _ AQ AQ
theorem Aga(s):DU (IH s) (λ r=>r<=(s.CN.length:Int)/\r<=(s.CV.length:Int)/\r<=(s.CX.length:Int)):=by
 unfold IH;refine tS ?_;split<;>split<;>omega
theorem Bk6(u)(b)(a)(k):DU (Mv u b a k) (λ _=>True):=by
 unfold Mv
 repeat' (first | (with_reducible refine tB (OJ b) (λ _ _=>?_)) | (with_reducible refine tI (by (first | omega | (simp only[Bv,Bw,Br,Bx,B1,BK,Ct] at*;omega))) (λ _ _ _=>?_)) | (with_reducible refine tG (by (first | omega | (simp only[Bv,Bw,Br,Bx,B1,BK,Ct] at*;omega))) (λ _=>?_)) | (with_reducible refine tD (λ _=>?_) (λ _=>?_)) | (with_reducible refine tC (λ _=>?_) (λ _=>?_)) | (with_reducible refine tS ?_))
 all_goals trivial
theorem Bkt{C B S U T}{n}{s}(h:MS C B S U T n s):DU (SF s) (λ r=>r.length<=1000):=by
 have v:U<=8:=h.c.k.k.u8;have t:=h.q.a;unfold SF;refine tB (P:=λ r=>r.1.length<=1000) (tL (λ r=>0<=r.2/\r.2<=(U:Int)/\r.1.length<=10*r.2.toNat) (λ r=>U - r.2.toNat) ⟨AT,AT,AT⟩ ?_) ?_
 . rintro ⟨l,i⟩ ⟨y,z,o⟩;dsimp only at o;refine tB (Aga s) λ w x=>tD (λ Dv=>?_) λ e=>tS AS;refine tB (P:=λ r=>r.1.length<=l.length+5) (tL (λ r=>1<=r.2/\r.2<=6/\(r.1.length:Int)<=l.length+r.2 - 1) (λ r=>6 - r.2.toNat) ⟨AT,AT,AT⟩ ?_) ?_
   . rintro ⟨m,j⟩ ⟨E,H,p⟩;dsimp only at p;refine tD (λ Dv=>tI AQ λ u _ _=>tI AQ λ b _ _=>tI AQ λ a _ _=>tB (Bk6 u b a j) λ d _=>tC (λ _=>tG AQ λ _=>tS ⟨⟨?_,?_,?_⟩,?_⟩) λ _=>tS ⟨⟨?_,?_,?_⟩,?_⟩) λ e=>tS AS;all_goals (dsimp only;(try rw[List.length_append,List.length_singleton]);rw[C2 AQ AQ];omega)
   . rintro ⟨m,j⟩ g;dsimp only at g;refine tS ⟨⟨?_,?_,?_⟩,?_⟩;all_goals (dsimp only;rw[C2 AQ AQ];omega)
 . rintro ⟨l,i⟩ f;exact tS f
theorem Ll.num{k a b}(h:2<=k/\k<=11/\0<=a/\a<=8/\0<=b/\b<=6/\(8<=k->b=0)):Ll ⟨k,a,b,[]⟩:= .inr ⟨h.1,h.2.1,h.2.2.1,h.2.2.2.1,h.2.2.2.2.1,h.2.2.2.2.2.1,rfl,h.2.2.2.2.2.2⟩
theorem Aiz{C B S U T}{n}{s}(h:MS C B S U T n s)(d):DU (LJ s d) (λ r=>r.2=true->Ll r.1):=by
 have H:U<=8:=h.c.k.k.u8;have z:=h.q.ul;unfold LJ;have no:∀e:HW,DU (some (e,false)) (λ r=>r.2=true->Ll r.1):=λ e=>tS (λ h=>by cases h);refine tD (λ _=>no _) λ E=>tB (Aga s) λ w N=>tD (λ _=>no _) λ l=>tD (λ _=>no _) λ I=>tD (λ _=>no _) λ K=>?_;have yes:∀k b:Int,2<=k->k<=11->0<=b->b<=6->(8<=k->b=0)->DU (some ((⟨k,d.CY,b,[]⟩:HW),true)) (λ r=>r.2=true->Ll r.1):=λ k b p t v x y=>tS λ _=>Ll.num ⟨p,t,AQ,AQ,v,x,y⟩;refine tI AQ λ u _ _=>tI AQ λ a _ _=>tD (λ _=>?_) λ _=>tD (λ _=>yes 9 0 AQ AQ AQ AQ AQ) λ _=>tD (λ _=>yes 9 0 AQ AQ AQ AQ AQ) λ _=>tD (λ _=>yes 10 0 AQ AQ AQ AQ AQ) λ _=>tD (λ _=>?_) λ _=>no _
 . refine tB (P:=λ e=>match e with | .inl _=>True | .inr r=>r.2=true->Ll r.1) (tL (λ i=>0<=i/\i<=6) (λ i=>7 - i.toNat) ⟨AQ,AQ⟩ ?_) ?_
   . rintro i ⟨m,o⟩;refine tI AQ λ row _ g=>?_;have j:=h.q.d6 row g;refine tD (λ Dv=>tI AQ λ f _ _=>tD (λ _=>tD (λ _=>tS ?_) λ _=>tS ?_) λ _=>tS ?_) λ _=>tS trivial
     . exact λ _=>Ll.num ⟨AQ,AQ,AQ,AQ,AQ,AQ,AQ⟩
     all_goals (dsimp only;rw[C2 AQ AQ];omega)
   . rintro (e | r) g
     . exact tI AQ λ row _ g=>tD (λ _=>yes 4 0 AQ AQ AQ AQ AQ) λ _=>yes 8 0 AQ AQ AQ AQ AQ
     . exact tS g
 . refine tB (P:=λ e=>match e with | .inl _=>True | .inr r=>r.2=true->Ll r.1) (tL (λ i=>0<=i/\i<=6) (λ i=>7 - i.toNat) ⟨AQ,AQ⟩ ?_) ?_
   . rintro i ⟨m,o⟩;refine tI AQ λ row _ g=>?_;have j:=h.q.u6 row g;refine tD (λ Dv=>tI AQ λ f _ _=>tD (λ _=>tD (λ _=>tD (λ _=>tS ?_) λ _=>tS ?_) λ _=>tS ?_) λ _=>tS ?_) λ _=>tS trivial
     . exact λ _=>Ll.num ⟨AQ,AQ,AQ,AQ,AQ,AQ,AQ⟩
     all_goals (dsimp only;rw[C2 AQ AQ];omega)
   . rintro (e | r) g
     . exact tI AQ λ row _ g=>tD (λ _=>yes 5 0 AQ AQ AQ AQ AQ) λ _=>yes 8 0 AQ AQ AQ AQ AQ
     . exact tS g
theorem Bhu{C B S U T}{n}{s}(h:MS C B S U T n s)(k):DU (P2 s k) (λ r=>r.2=true->Ll r.1):=by
 unfold P2;refine tB (Bkt h) λ l i=>tD (λ _=>tS (λ h=>by cases h)) λ f=>tG AQ λ _=>?_;have h2:=Int.tmod_lt_of_pos k (show 0<(l.length:Int) by omega);have g:=Int.lt_tmod_of_pos k (show 0<(l.length:Int) by omega);refine tD (λ _=>?_) λ _=>?_
 . rw[C2 AQ AQ];exact tI AQ λ d _ _=>tB (Aiz h d) λ ⟨a,b⟩ e=>tS e
 . exact tI AQ λ d _ _=>tB (Aiz h d) λ ⟨a,b⟩ e=>tS e
theorem A6{p:Prop}(h:p:=by simp only[Br,Bx];omega):p:=h
theorem Atn{C B S U T}{n}{s}(h:MS C B S U T n s)(l)(i)(hi:0<=i/\i<100000000)(f):DU (Jg l i s f) (λ r=>Ll r.1/\r.2.1=l/\i<=r.2.2/\r.2.2<=i+10):=by
 have h8:U<=8:=h.c.k.k.u8;have e1:=h.q.b;unfold Jg;refine tB (Jo l i _ AQ AQ) ?_;rintro ⟨x,e,i2⟩ ⟨k1,k2,rfl,rfl⟩;refine tI A6 λ k _ Q=>?_;have Sc:2<=k/\k<=11:=by
   simp only[BU,BN,or_false] at Q;omega
 rw[C2 (n:=((s.CV.length:Nat):Int)+1) AQ AQ];have v:∀(j m:Int),i<=j->j<=i+8->1<=m->m<1000->∀(K:Int×Aa×Int->Option (HW×Aa×Int)),(∀x:Int,0<=x->x<m->DU (K (x,e,j+1)) (λ r=>Ll r.1/\r.2.1=e/\i<=r.2.2/\r.2.2<=i+10))->DU (Option.bind (Dh e j m) K) (λ r=>Ll r.1/\r.2.1=e/\i<=r.2.2/\r.2.2<=i+10):=by
   intro j m g t z R K N;refine tB (Jo _ _ _ AQ AQ) ?_;rintro ⟨x,l3,i3⟩ ⟨o,p,E,H⟩;dsimp only at*;have I:=p z;rw[E,H];exact N x o I
 have fin:∀(k a b j:Int),2<=k->k<=11->0<=a->a<=8->0<=b->b<=6->(8<=k->b=0)->i<=j->j<=i+10->DU (some ((⟨k,a,b,[]⟩:HW),e,j)) (λ r=>Ll r.1/\r.2.1=e/\i<=r.2.2/\r.2.2<=i+10):=λ k a b j o p E H I V W Y Z=>tS ⟨Ll.num ⟨o,p,E,H,I,V,W⟩,rfl,Y,Z⟩;have u:∀j:Int,i<=j->j<=i+4->DU (Option.bind (Dh e j (((s.CV.length:Nat):Int)+1)) λ (GS,Jr,Lq)=>cond (decide (k<8)) (Option.bind (Dh Jr Lq 3) λ (JD,HB,RO)=>some ((⟨k,GS,JD,[]⟩:HW),HB,RO)) (some ((⟨k,GS,0,[]⟩:HW),Jr,Lq))) (λ r=>Ll r.1/\r.2.1=e/\i<=r.2.2/\r.2.2<=i+10):=by
   intro j g t;refine v j _ g AQ AQ AQ _ λ x o p=>tD (λ w=>v (j+1) 3 AQ AQ AQ AQ _ λ y p1 p2=>fin _ _ _ _ AQ AQ AQ AQ AQ AQ AQ AQ AQ) λ w=>fin _ _ _ _ AQ AQ AQ AQ AQ AQ AQ AQ AQ
 have eight:∀j:Int,i<=j->j<=i+4->DU (Option.bind (Dh e j (((s.CV.length:Nat):Int)+1)) λ (GS,Jr,Lq)=>some ((⟨8,GS,0,[]⟩:HW),Jr,Lq)) (λ r=>Ll r.1/\r.2.1=e/\i<=r.2.2/\r.2.2<=i+10):=by
   intro j g t;exact v j _ g AQ AQ AQ _ λ x o p=>fin _ _ _ _ AQ AQ AQ AQ AQ AQ AQ AQ AQ
 refine tD (λ _=>tC (λ _=>v (i+1) 4 AQ AQ AQ AQ _ λ x o p=>tD (λ _=>eight (i+1+1) AQ AQ) λ _=>u (i+1+1) AQ AQ) λ _=>eight (i+1) AQ AQ) λ _=>u (i+1) AQ AQ
abbrev ScS:Type:=Av×Aa×Int×Aa×Ab×Aj×Aj×Ac×Aa×Aa×Ah×Ao×Bool×Aw×Az×Int
def ScS.sta(r:ScS):O1:=⟨r.2.2.2.1,r.2.2.2.2.1,r.2.2.2.2.2.2.2.1,r.2.2.2.2.2.2.2.2.1,r.2.2.2.2.2.2.2.2.2.1,r.2.2.2.2.2.2.2.2.2.2.1,r.2.2.2.2.2.2.2.2.2.2.2.1,r.2.2.2.2.2.2.2.2.2.2.2.2.1,r.2.2.2.2.2.2.2.2.2.2.2.2.2.1,r.2.2.2.2.2.2.2.2.2.2.2.2.2.2.1,r.2.2.2.2.2.1,r.2.2.2.2.2.2.1⟩
theorem Au1{C B S}{n}(R:NW C B S n)(h:NMS n)(l)(i)(hi:0<=i/\i<10000000)(k)(hk:k<=100)(f):DU (Qf l i n k f) (λ r=>(∀e∈r.1,Ll e)/\(r.1.length:Int)<=max k 0/\r.2.1=l):=by
 unfold Qf;refine tB (Ar7 R) ?_;rintro ⟨s0,e⟩ ⟨rfl,hs⟩;refine tB (P:=λ r=>(∀e∈r.1,Ll e)/\(r.1.length:Int)<=max k 0/\r.2.1=l) (tL (λ r:ScS=>∃j:Nat,r.2.2.2.2.2.2.2.2.2.2.2.2.2.2.2=(j:Int)/\(j:Int)<=max k 0/\r.1.length=j/\(∀e∈r.1,Ll e)/\r.2.1=l/\i<=r.2.2.1/\r.2.2.1<=i+30*j/\∃V T:Nat,MS C B S V T n r.sta) (λ r=>(max k 0).toNat - r.2.2.2.2.2.2.2.2.2.2.2.2.2.2.2.toNat) ⟨0,rfl,AQ,rfl,all_nil,rfl,AS,AS,_,_,hs⟩ ?_) ?_
 . rintro ⟨ev,H,t,o,q,u,up,cl,Dm,pe,y,w,s,m,g,j0⟩ ⟨j,k1,k2,k3,Y,k5,k6,k7,V,T,E⟩;unfold ScS.sta at E;dsimp only at*;subst k1 k5
   suffices key:∀Q:ScS⊕ScS->Prop,Q (.inr (ev,H,t,o,q,u,up,cl,Dm,pe,y,w,s,m,g,(j:Int)))->(∀(e:HW) (b:Int) (a:O1),(j:Int)<k->Ll e->i<=b->b<=i+30*((j:Int)+1)->(∃V T:Nat,MS C B S V T n a)->Q (.inl ((ev++[e]),H,b,a.CP,a.CQ,a.down,a.up,a.closed,a.Dm,a.CZ,a.CN,a.CR,a.C6,a.CV,a.CX,(j:Int)+1)))->DU (VV n k f 0 (ev,H,t,o,q,u,up,cl,Dm,pe,y,w,s,m,g,(j:Int))) Q by
     refine key _ ⟨Y,AS,rfl⟩ ?_;intro e b a Dv K v z Vk;refine ⟨⟨j+1,AS,AQ,?_,Es Y K,rfl,v,AS,Vk⟩,AS⟩;rw[Bw,CL];omega
   intro Q Bzz Br8;have fin:=tS Bzz;refine tD (λ Dv=>tD (λ _=>?_) λ _=>fin) λ _=>fin;refine tB (Jo _ _ _ AQ AQ) ?_;rintro ⟨x,I,t3⟩ ⟨q1,q2,rfl,rfl⟩;refine tB (Bhu E x) ?_;rintro ⟨Z,ok⟩ N;refine tB (Jo _ _ _ AQ AQ) ?_;rintro ⟨x2,I,t3⟩ ⟨q3,q4,rfl,rfl⟩;have step:∀(e:HW) (b:Int),Ll e->i<=b->b<=i+30*((j:Int)+1)->DU (cond (decide (ev.length+1<10000000)) (Option.bind (IW n (⟨o,q,cl,Dm,pe,y,w,s,m,g,u,up⟩:O1) e) λ (Kb,x74,x75)=>some (Sum.inl ((ev++[e]),I,b,Kb.CP,Kb.CQ,Kb.down,Kb.up,Kb.closed,Kb.Dm,Kb.CZ,Kb.CN,Kb.CR,Kb.C6,Kb.CV,Kb.CX,(i64.wrap ((j:Int)+1))))) none) Q:=by
     intro e b K v z;refine tG AQ λ _=>tB (Avz R E e) ?_;rintro ⟨a,a2,a0⟩ ⟨⟨V2,T2,_,m1⟩,m2⟩;rw[C2 AQ AQ];exact tS (Br8 e b a Dv K v z ⟨V2,T2,m1⟩)
   have ord:DU (Option.bind (MG I (t+1+1) n) λ (x77,x78,x79)=>cond (decide (ev.length+1<10000000)) (Option.bind (IW n (⟨o,q,cl,Dm,pe,y,w,s,m,g,u,up⟩:O1) (⟨1,0,0,x77⟩:HW)) λ (Kb,x74,x75)=>some (Sum.inl ((ev++[(⟨1,0,0,x77⟩:HW)]),x78,x79,Kb.CP,Kb.CQ,Kb.down,Kb.up,Kb.closed,Kb.Dm,Kb.CZ,Kb.CN,Kb.CR,Kb.C6,Kb.CV,Kb.CX,(i64.wrap ((j:Int)+1))))) none) Q:=by
     refine tB (Bba R h _ _ AQ) ?_;rintro ⟨tx,l4,b⟩ ⟨U,W,p3,p4⟩;dsimp only at*;rw[W];exact step ⟨1,0,0,tx⟩ b (.inl ⟨rfl,rfl,rfl,U⟩) AQ AQ
   have p:DU (Option.bind (Jg I (t+1+1) (⟨o,q,cl,Dm,pe,y,w,s,m,g,u,up⟩:O1) f) λ (x92,x93,x94)=>cond (decide (ev.length+1<10000000)) (Option.bind (IW n (⟨o,q,cl,Dm,pe,y,w,s,m,g,u,up⟩:O1) x92) λ (Kb,x74,x75)=>some (Sum.inl ((ev++[x92]),x93,x94,Kb.CP,Kb.CQ,Kb.down,Kb.up,Kb.closed,Kb.Dm,Kb.CZ,Kb.CN,Kb.CR,Kb.C6,Kb.CV,Kb.CX,(i64.wrap ((j:Int)+1))))) none) Q:=by
     refine tB (Atn E _ _ AQ f) ?_;rintro ⟨e,l4,b⟩ ⟨U,W,p3,p4⟩;dsimp only at*;rw[W];exact step e b U AQ AQ
   refine tD (λ _=>ord) λ _=>tD (λ _=>ord) λ _=>tC (λ Ru=>tD (λ _=>p) λ _=>step Z (t+1+1) (N Ru) AQ AQ) λ _=>tD (λ _=>ord) λ _=>tD (λ _=>p) λ _=>p
 . rintro ⟨ev,H,t,o,q,u,up,cl,Dm,pe,y,w,s,m,g,j0⟩ hr;exact tS hr
theorem Ao3{α:Type}{l:List α}{i}{x d}(h:l[i]?=some x):i<l.length/\l.getD i d=x:=by
 obtain ⟨a,h2⟩:=Bn.1 h;exact ⟨a,by rw[getD_eq a];exact h2⟩
theorem MF{α:Type}{l:List α}{x}(d:α)(h:x∈l):∃i,i<l.length/\l.getD i d=x:=by
 obtain ⟨i,a⟩:=List.getElem?_of_mem h;exact ⟨i,Ao3 a⟩
theorem Bat{f}{n}(hb:n.blocks.length=f)(o:f<=24)(t:n.CT.length<=6)(h:JL f n.CT):Fg n=some ((f:Int)+GL n.CT):=by
 have FE:=SW h
 suffices hh:DU (Fg n) (λ r=>r=(f:Int)+GL n.CT) by
   obtain ⟨r,g,h2⟩:=hh;rw[g,h2]
 unfold Fg;refine tB (P:=λ r=>r.1=(f:Int)+GL n.CT) (tL (λ s=>∃i:Nat,s.2=(i:Int)/\i<=n.CT.length/\s.1=(f:Int)+GL (n.CT.take i)) (λ s=>n.CT.length - s.2.toNat) ⟨0,rfl,AQ,by simp[GL,hb]⟩ ?_) (λ ⟨a,b⟩ q=>tS q);rintro ⟨a,j⟩ ⟨i,g,h2,l⟩;subst g l;refine tD (λ Dv=>tI AQ λ x hx _=>tS ⟨⟨i+1,?_,AQ,?_⟩,?_⟩) λ p=>tS ?_
 . dsimp only;rw[C2 AQ AQ];omega
 . have e:=Ao3 (d:=EY) hx;rw[Be] at e;have m:=SY h e.1;rw[e.2] at m;have k:=h i e.1;rw[e.2] at k;obtain ⟨_,_,_,_,u,v,w⟩:=k;rw[G5 n.CT i EY e.1,IM,e.2,C2 AQ AQ];omega
 . dsimp only;rw[C2 AQ AQ];omega
 . have:i=n.CT.length:=AQ;subst this;rw[BH]
theorem Av8(a)(l)(h:JL a l):∀k,k<=l.length->∀x:Int,(a:Int)<=x->x<(a:Int)+GL (l.take k)->∃s∈l,s.base<=x/\x<s.base+s.Eg
 | 0,_,x,b,h2=>by simp only[List.take_zero,GL] at h2;omega
 | k+1,f,x,b,h2=>by
   rw[G5 l k EY AQ,IM] at h2;by_cases e:x<(a:Int)+GL (l.take k)
   . exact Av8 a l h k AQ x b e
   . obtain ⟨_,_,_,_,g,i,j⟩:=h k AQ;exact ⟨_,IE l k EY AQ,AQ,AQ⟩
theorem NW.of{n}(hb:Nz n)(v:n.CT.length<=6)(N:n.C7.length<=8)(f:JL n.blocks.length n.CT)(Bjk:Nu n.CT n.C7)(Q:u_r03_Valid_v n=some true):NW ((n.blocks.length:Int)+GL n.CT).toNat n.blocks.length n.CT.length n:=by
 obtain ⟨B,g,R,Ek⟩:=hb;have FE:=SW f;have E:((((n.blocks.length:Int)+GL n.CT).toNat:Nat):Int)=(n.blocks.length:Int)+GL n.CT:=AQ;have q:∀x∈n.C7,∃s∈n.CT,s.base<=x/\x<s.base+s.Eg:=by
   intro x hx;obtain ⟨i,a,b⟩:=MF 0 hx;obtain ⟨s,u,Vk⟩:=Cf.1 (Bjk i a).1;rw[b] at Vk;simp only[inD,Bz,BI] at Vk;exact ⟨s,u,Vk.2⟩
 refine ⟨rfl,B,⟨R,?_,g⟩,rfl,v,?_,?_,AQ,AQ,Q,?_,N,?_,?_⟩
 . intro row t;obtain ⟨i,a,b⟩:=MF [] t;obtain ⟨_,m,z⟩:=Ek i AQ;rw[b] at m z;refine ⟨AQ,λ x hx=>?_⟩;obtain ⟨k,K,r⟩:=MF 0 hx;obtain ⟨o,p,_,_⟩:=z k K;rw[r] at o p;exact ⟨o,p⟩
 . intro s e;obtain ⟨i,a,b⟩:=MF EY e;have y:=f i a;have m:=SY f a;rw[b] at y m;obtain ⟨o,p,S,T,U,V,W⟩:=y;exact ⟨o,p,S,T,U,V,AQ,AQ⟩
 . intro x l h2;refine Av8 n.blocks.length n.CT f n.CT.length (Bk _) x l ?_;rw[BH];omega
 . rw[Bat rfl g v f,E]
 . intro x hx;obtain ⟨s,e,l,h2⟩:=q x hx;obtain ⟨i,a,b⟩:=MF EY e;have m:=SY f a;rw[b] at m;omega
 . rw[List.nodup_iff_pairwise_ne,List.pairwise_iff_getElem];intro i j a w I H;have l:=(Bjk j w).2;rw[getD_eq w,<-H] at l;refine l ?_;rw[Ch];exact ⟨i,by rw[BK];omega,by rw[List.getElem_take]⟩
end Go.Am
end
noncomputable section
namespace Go.Am
open Go Go.Proofs
open Go.IntKind (i64)
open Tryz
set_option maxRecDepth 100000
set_option linter.unusedVariables false
set_option linter.unusedSimpArgs false
set_option maxHeartbeats 2000000
structure Sfm where
 word:Ad
 kind:Int
 numbers:Int
 deriving DecidableEq
def Km(l:List Sfm):Ag:=l.map λ x=>[.str x.word,.int .i64 x.kind,.int .i64 x.numbers]
theorem Qy{l}{i}{x}(h:CU l i=some x):(Km l).getD i.toNat []=[.str x.word,.int .i64 x.kind,.int .i64 x.numbers]:=D3 _ h
theorem Adw:Km []=[]:=rfl
theorem XN(x)(l):Km (x::l)=[.str x.word,.int .i64 x.kind,.int .i64 x.numbers]::Km l:=rfl
theorem Tv(l):(Km l).length=l.length:=by simp[Km]
theorem XM(l)(x):Km (l++[x])=Km l++[[.str x.word,.int .i64 x.kind,.int .i64 x.numbers]]:=by simp[Km]
theorem b8(l)(i)(x):Km (l.set i x)=(Km l).set i [.str x.word,.int .i64 x.kind,.int .i64 x.numbers]:=by simp[Km,BJ]
inductive MY where
 | i (n:Int)
 | s (l:Ad)
def Aev:MY->Pd
 | .i n=> .ifi 3 .i64 n
 | .s l=> .ifs 9 l
theorem Bhm(n):Aev (.i n)= .ifi 3 .i64 n:=rfl
theorem Bhl(l):Aev (.s l)= .ifs 9 l:=rfl
def Wn:MY->Bool
 | .i _=>true
 | .s _=>false
def RH:MY->Int
 | .i n=>n
 | .s _=>0
def Aeu:MY->Ad
 | .i _=>[]
 | .s l=>l
theorem Bn9:Dz prog 20=some ⟨1,16,.other,.bad⟩:=AY
theorem Btg(x):asD prog 3 (.p (Aev x))=some (.Em [.p (.int .i64 (RH x)),.p (.bool (Wn x))]):=by cases x<;>simp[Aev,asD,ti3,asV,Ve,RH,Wn]
theorem Btf(x):asD prog 9 (.p (Aev x))=some (.Em [.p (.str (Aeu x)),.p (.bool (!Wn x))]):=by cases x<;>simp[Aev,asD,ti9,asV,Ve,Aeu,Wn]
attribute [go_sem] Bn9 Bhm Bhl
attribute [go_sem high] Btg Btf
def HS(l:List MY):Ag:=l.map λ x=>[Aev x]
theorem Bak{l}{i}{x}(h:CU l i=some x):(HS l).getD i.toNat []=[Aev x]:=D3 _ h
theorem Wi:HS []=[]:=rfl
theorem Ry(x)(l):HS (x::l)=[Aev x]::HS l:=rfl
theorem TG(l):(HS l).length=l.length:=by simp[HS]
theorem XV(l)(x):HS (l++[x])=HS l++[[Aev x]]:=by simp[HS]
theorem r0(l)(i)(x):HS (l.set i x)=(HS l).set i [Aev x]:=by simp[HS,BJ]
theorem Rx(l):PX 1 (HS l):=by intro e a;simp only[HS,BS] at a;obtain ⟨x,_,rfl⟩:=a;rfl
theorem Gl(l)(n):(HS l).take n=HS (l.take n):=by simp[HS,CE]
theorem FX:(∀(l:List MY) (i:Nat) (x:MY),(l.set i x).take l.length=l.set i x):=λ l i x=>BA AT
theorem Pp(l)(n):∀e∈(HS l).take n,e.length=1:=λ e h=>by have:=CB h;simp only[HS,BS] at this;obtain ⟨x,_,rfl⟩:=this;rfl
attribute [go_sem] Tv TG
theorem ZEs:(type_of% @Adw)/\(type_of% @XN)/\(type_of% @XM)/\(type_of% @b8)/\(type_of% @Tv)/\(type_of% @Wi)/\(type_of% @Ry)/\(type_of% @XV)/\(type_of% @r0)/\(type_of% @TG):=⟨@Adw,@XN,@XM,@b8,@Tv,@Wi,@Ry,@XV,@r0,@TG⟩
abbrev Sfm.c(a:Sfm):Ai:=[.p (.str a.word),.p (.int .i64 a.kind),.p (.int .i64 a.numbers)]
attribute [simp,go_sem] Sfm.c
theorem FGs{st Lt}(h:Le st Lt:=by simp[ZF,ZE,ZEu,DX.h,GF.h,DX.h2,GF.h2,ZEs,HA,FA,Hj,Hk,TP,Nj,Bv,BN,GN, *]):Wk st Lt:=Wk.forget h
theorem ALs{p q:Prop}{st Lt}(f:Wk st Lt->q)(e:p=q:=by (try simp only[go_sem, *])<;>rfl)(h:Le st Lt:=by simp[ZF,ZE,ZEu,DX.h,GF.h,DX.h2,GF.h2,ZEs,HA,FA,Hj,Hk,TP,Nj,Bv,BN,GN, *]):p:=Eq.mpr e (f (Wk.forget h))
theorem XPs{x}{k:Kt}{st:St}{σ ε:Type}{step:σ->Option (σ⊕ε)}{b:σ}{e:ε}{S:σ->St}(f:C9 step b=some e)(I J:Aq)(E:σ->Ar)(H:σ->Hp)
   (g:∀s n,(step s).bind (H7 (HY step n))=some e->(∀a st',HY step n a=some e->Wk st' (S a)->L prog x k n st')->X prog x (.lp x n k) (S s))
   (i:∀q,⟨Arx st.env I++E q,VO st.hp J++H q,st.n⟩=S q:=by intro q;(try simp only[go_sem])<;>rfl) (h:Le st (S b):=by simp[ZF,ZE,ZEu,DX.h,GF.h,DX.h2,GF.h2,ZEs,HA,FA,Hj,Hk,TP,Nj,Bv,BN,GN, *]):X prog (.loop x) k st:=E0 f S (Wk.forget h) g
theorem Bb7{a:Prop}{x}{k:Kt}{st:St}{σ ε:Type}{step:σ->Option (σ⊕ε)}{f:σ}{e:ε}{S:σ->St}(j:C9 step f=some e)(I J:Aq)(E:σ->Ar)(H:σ->Hp)
   (l:∀s n,(step s).bind (H7 (HY step n))=some e->(∀b st',HY step n b=some e->Wk st' (S b)->L prog x k n st')->X prog x (.lp x n k) (S s))
   (g:a=(X prog (.loop x) k st):=by (try simp only[go_sem, *])<;>rfl) (i:∀q,⟨Arx st.env I++E q,VO st.hp J++H q,st.n⟩=S q:=by intro q;(try simp only[go_sem])<;>rfl) (h:Le st (S f):=by simp[ZF,ZE,ZEu,DX.h,GF.h,DX.h2,GF.h2,ZEs,HA,FA,Hj,Hk,TP,Nj,Bv,BN,GN, *]):a:=Eq.mpr g (XPs j I J E H l i h)
def Oc(s:Ad):Option (AA×Int×Int):=some (D1 s)
theorem VX(s)(r)(h:Oc s=some r):C3 prog 24 [.p (.str s)] [] λ h d=>h=[]/\d= .Em [sD (Lh r.1),iD r.2.1,iD r.2.2]:=by cases h;exact Awq s
def Qh(s:Ad):Option (Int×Bool):=some (Hw s)
theorem Ano(s)(r)(h:Qh s=some r):C3 prog 55 [.p (.str s)] [] λ h d=>h=[]/\d= .Em [iD r.1,bD r.2]:=by cases h;exact As2 s
theorem Al1{l}{i}{x}(h:CU l i=some x):(Lh l).getD i.toNat []=[.int .i64 x.num,.sl (El x.fs)]:=D3 _ h
def Xa(f:Av)(g:Av):Int->Option ((Int)⊕(Int⊕Bool))
 | e=>cond (e<(f.length:Int)) ((CU f e).bind λ JJ=>(CU g e).bind λ I7=>cond ((JJ.kind=I7.kind)&&(decide (JJ.a=I7.a)&&(decide (JJ.b=I7.b)&&decide (JJ.text=I7.text)))) (some (.inl (i64.wrap (e+1)))) (some (.inr (.inr false)))) (some (.inr (.inl e)))
def Aaq(b:Av)(e:Av):Option (Bool):=
 cond ((b.length:Int)=(e.length:Int)) ((C9 (Xa b e) 0).bind (λ | .inl MZ=>some true | .inr (a)=>some a)) (some false)
theorem Agp{e f r}(a:Aaq e f=some r):
   Rq 13 [sD (GI e),sD (GI f)] [] [] (bD r):=by
 refine EC func13 Bgc ?_;unfold Aaq at a;refine cP a λ _ a=>?_;obtain ⟨i,g,a⟩:=bE a;refine Bb7 g [0,1] [] (λ q=>[(5,iD q)]) (λ _=>[]) ?_;rintro j _ Yk b;rw[Xa.eq_1] at Yk;obtain ⟨_,Yk⟩ | ⟨_,Yk⟩:=cK Yk
 . cases kR Yk;exact zP a
 refine Dd [0,0,0,0,0,0,0,0,0] ?_;obtain ⟨_,Yk,_⟩:=jK TA Yk;obtain ⟨_,Yk,_⟩:=jK TA Yk;obtain ⟨_,Yk⟩ | ⟨_,Yk⟩:=cK Yk
 . cases kR Yk;exact zP a
 exact ALs (b _ _ (kI Yk))
def T9(a:Ae)(s:Ad):Option Ad:=if s=[32]/\a.length<=100000000/\szF a<=1000000000000 then some (Ej a) else none
theorem Ah2(fs)(s)(r)(h:T9 fs s=some r):C3 prog 51 [sD (El fs),.p (.str s)] [] λ h d=>h=[]/\d= .p (.str r):=by
 unfold T9 at h;split at h
 . rename_i e;cases h;obtain ⟨rfl,b,h2⟩:=e;by_cases a:fs=[]
   . subst a;exact Bd6
   . exact Bd5 fs a b h2
 . cases h
def MD:Option ((List Sfm)):=
 some [(⟨[100,111,119,110],2,2⟩:Sfm),(⟨[117,112],3,2⟩:Sfm),(⟨[108,111,115,101,45,100,111,119,110],4,2⟩:Sfm),(⟨[108,111,115,101,45,117,112],5,2⟩:Sfm),(⟨[116,119,105,99,101,45,100,111,119,110],6,2⟩:Sfm),(⟨[116,119,105,99,101,45,117,112],7,2⟩:Sfm),(⟨[116,105,109,101,114],8,1⟩:Sfm),(⟨[100,114,105,118,101],9,1⟩:Sfm),(⟨[115,101,114,118,101],10,1⟩:Sfm),(⟨[102,97,117,108,116],11,1⟩:Sfm)]
theorem Ob{r}(a:MD=some r):
   Rq 53 [] [] [] (sD (Km r)):=by
 refine EC func53 Bfn ?_;unfold MD at a;exact zP a
def IX(b:Sfm)(a:Ae):Option (Bool×Ae):=
 (CU a 0).bind λ e=>some (decide (b.word=e),a)
theorem UD{e b r}(a:IX e b=some r):
   Rq 54 [.agg e.c,.ptr 1000000 0] [(1000000,.box [sD (El b)])] [(1000000,.box [sD (El r.2)])] (bD r.1):=by
 refine EC func54 Bfm ?_;unfold IX at a;refine Dd [0,0,0,0,0,0,0] ?_;obtain ⟨_,a,f,_⟩:=iE a;have _:(El b).getD 0 []=_:=Al0 f;exact zO a
def IT(b:List Sfm):Ae×Int->Option ((Ae×Int)⊕((Ae×Int)⊕(Int×Ae)))
 | (e,a)=>cond (a<(b.length:Int)) ((CU b a).bind λ GS=>(IX GS e).bind λ (Jp,JD)=>cond Jp (some (.inr (.inr (((a,JD):Int×Ae))))) (some (.inl (JD,(i64.wrap (a+1)))))) (some (.inr (.inl (e,a))))
def GC(b:List Sfm)(e:Ae):Option (Int×Ae):=
 (C9 (IT b) (e,0)).bind (λ | .inl (MZ,f)=>some ((-1),MZ) | .inr (a)=>some a)
theorem Ra{b e r}(a:GC b e=some r):
   Rq 52 [sD (Km b),.fn 54 [.ptr 1000000 0]] [(1000000,.box [sD (El e)])] [(1000000,.box [sD (El r.2)])] (iD r.1):=by
 refine EC func52 Aoo ?_;unfold GC at a;obtain ⟨g,f,a⟩:=bE a;refine Bb7 f [0,1,7] [] (λ q=>[(8,iD q.2)]) (λ q=>[(1000000,.box [sD (El q.1)])]) ?_;rintro ⟨i,j⟩ _ EO YN;rw[IT.eq_1] at EO;obtain ⟨_,EO⟩ | ⟨_,EO⟩:=cK EO
 . cases kR EO;exact zO a
 obtain ⟨_,EO,_⟩:=jK Qy EO;refine FI EO UD ?_;rintro ⟨_,_⟩ EO;obtain ⟨_,EO⟩ | ⟨_,EO⟩:=cK EO
 . exact ALs (YN _ _ (kI EO))
 cases kR EO;exact zO a
def Kj(b:Ae):Aa×Int->Option ((Aa×Int)⊕((Aa×Int)⊕(HW×Int)))
 | (O6,a)=>cond (a<((((b.take b.length).drop 1).length:Nat):Int)) ((CU ((b.take b.length).drop 1) a).bind λ Mr=>(Qh Mr).bind λ (TZ,NB)=>cond NB (cond (TZ<0) (some (.inr (.inr ((((⟨0,0,0,[]⟩:HW),7):HW×Int))))) ((Acx 2 O6 a).bind λ e=>some (.inl ((O6.set a.toNat TZ),(i64.wrap (a+1)))))) (some (.inr (.inr ((((⟨0,0,0,[]⟩:HW),7):HW×Int)))))) (some (.inr (.inl (O6,a))))
def Jy(a:Ae):Option (HW×Int):=
 (CU a 0).bind λ j=>cond (j=[111,114,100,101,114]) (cond (4<(a.length:Int)) (some ((⟨0,0,0,[]⟩:HW),5)) (cond (0<=1/\1<=(a.length:Int)/\(a.length:Int)<=(a.length:Int)) ((T9 ((a.take a.length).drop 1) [32]).bind λ i=>some ((⟨1,0,0,i⟩:HW),0)) none)) (Option.bind MD λ k=>(GC k a).bind λ (x8,x9)=>cond (x8<0) (some ((⟨0,0,0,[]⟩:HW),4)) (Option.bind MD λ Jr=>(CU Jr x8).bind λ I7=>cond ((x9.length:Int)=(i64.wrap (1+I7.numbers))) (cond (0<=1/\1<=(x9.length:Int)/\(x9.length:Int)<=(x9.length:Int)) ((C9 (Kj x9) ((List.replicate 2 0),0)).bind (λ | .inl (b,WD)=>(Acx 2 b 0).bind λ f=>(Acx 2 b 1).bind λ g=>some ((⟨I7.kind,f,g,[]⟩:HW),0) | .inr (e)=>some e)) none) (some ((⟨0,0,0,[]⟩:HW),5))))
theorem S8{e r}(a:Jy e=some r):
   Rq 25 [sD (El e)] [] [] (.Em [.agg r.1.c,iD r.2]):=by
 refine EC func25 Bg4 ?_;unfold Jy at a;obtain ⟨_,a,w,_⟩:=iE a;have _:(El e).getD 0 []=_:=Al0 w;obtain ⟨_,a⟩ | ⟨_,a⟩:=cE a
 . refine Eb a Ob λ _ a=>?_;refine Eb a Ra ?_;rintro ⟨_,x⟩ a;obtain ⟨_,a⟩ | ⟨_,a⟩:=cE a
   . refine Eb a Ob λ _ a=>?_;obtain ⟨_,a,_⟩:=jE Qy a;refine cP a λ _ a=>?_;obtain ⟨f,a⟩:=gE a;have _:=Bg f;obtain ⟨v,k,a⟩:=bE a;(try simp only[go_sem, *,XO x]);refine XPs k [2,5,6,41,42] [2,5] (λ q=>[(43,iD q.2)]) (λ q=>[(6,.box (dI q.1))]) ?_;rintro ⟨O6,b⟩ _ Lb Bns;rw[Kj.eq_1] at Lb;obtain ⟨_,Lb⟩ | ⟨_,Lb⟩:=cK Lb
     . cases kR Lb;obtain ⟨_,l,a⟩:=bE a;obtain ⟨_,s,i,_⟩:=Uc l;have _:0<=0/\0<2:=AQ;have _:0<=1:=AQ;simp only[Int.reduceToNat] at i;obtain ⟨_,m,a⟩:=bE a;obtain ⟨_,t,j,_⟩:=Uc m;have _:0<=1/\1<2:=AQ;have _:1<=1:=AQ;simp only[Int.reduceToNat] at j;exact zP a
     obtain ⟨Mr,Lb,_⟩:=jK Al0 Lb;obtain ⟨⟨_,_⟩,n,Lb⟩:=bK Lb;refine A ?_;refine CcD (Ano Mr _ n) ?_;obtain ⟨_,Lb⟩ | ⟨_,Lb⟩:=cK Lb
     . cases kR Lb;exact zP a
     obtain ⟨_,Lb⟩ | ⟨_,Lb⟩:=cK Lb
     . obtain ⟨_,o,Lb⟩:=bK Lb;obtain ⟨_,u,_,_⟩:=Uc o;have _:0<=b/\b<2:=AQ;have _:(Int.toNat b)<=1:=AQ;exact ALs (Bns _ _ (kI Lb))
     cases kR Lb;exact zP a
   exact zP a
 obtain ⟨_,a⟩ | ⟨_,a⟩:=cE a
 . obtain ⟨g,a⟩:=gE a;have _:=Bg g;obtain ⟨_,p,a⟩:=bE a;(try simp only[go_sem, *,XO e]);refine CcD (Ah2 ((e.take e.length).drop 1) [32] _ p) ?_;exact zP a
 exact zP a
def YG(e:AA):Av×Int->Option ((Av×Int)⊕((Av×Int)⊕(Av×Int×Int)))
 | (b,a)=>cond (a<(e.length:Int)) ((CU e a).bind λ HB=>(Jy HB.fs).bind λ (I6,Fo)=>cond (Fo=0) (cond (b.length+1<10000000) (some (.inl ((b++[I6]),(i64.wrap (a+1))))) none) (some (.inr (.inr ((([],HB.num,Fo):Av×Int×Int)))))) (some (.inr (.inl (b,a))))
def S7(b:Ad):Option (Av×Int×Int):=
 (Oc b).bind λ (x1,x2,x3)=>cond (x3=0) ((C9 (YG x1) ([],0)).bind (λ | .inl (So,Zm)=>cond (4000<(So.length:Int)) (some ([],0,14)) (some (So,0,0)) | .inr (a)=>some a)) (some ([],x2,x3))
theorem Rj{b r}(a:S7 b=some r):
   Rq 9 [.p (.str b)] [] [] (.Em [sD (GI r.1),iD r.2.1,iD r.2.2]):=by
 refine EC func9 Bjy ?_;unfold S7 at a;obtain ⟨⟨g,_,_⟩,j,a⟩:=bE a;refine A ?_;refine CcD (VX b _ j) ?_;refine cP a λ _ a=>?_;obtain ⟨i,f,a⟩:=bE a;refine A ?_;refine E0 f (λ q=>⟨[(8,rD 43 q.1),(23,sD (Lh g)),(24,iD ((g.length:Nat):Int)),(25,iD q.2)],[(43,.arr 49 4 (GI q.1))],49⟩) ((Wk.nil (t:=8) (q:=43) (sz:=4) 49 rfl rfl AV).trans FGs) ?_;rintro ⟨k,l⟩ _ Fs Anu;rw[YG.eq_1] at Fs;obtain ⟨_,Fs⟩ | ⟨_,Fs⟩:=cK Fs
 . cases kR Fs;refine cP a λ _ a=>?_;exact zP a
 obtain ⟨_,Fs,_⟩:=jK Al1 Fs;refine FI Fs S8 ?_;rintro ⟨_,_⟩ Fs;obtain ⟨_,Fs⟩ | ⟨_,Fs⟩:=cK Fs
 . refine Dd [0,0,0,0,0,0] ?_;cases kR Fs;exact zP a
 obtain ⟨e,Fs⟩:=gK Fs;refine G7 e ?_;exact ALs (Anu _ _ (kI Fs))
def H2(b:Sfm)(a:Int)(e:Int)(f:Int)(g:Ad):Option (Bool×Int×Int×Int×Ad):=
 some (decide (b.kind=a),a,e,f,g)
theorem R7{a b e f g r}(i:H2 a b e f g=some r):
   Rq 61 [.agg a.c,.ptr 1000000 0] [(1000000,.box [iD b,iD e,iD f,.p (.str g)])] [(1000000,.box [iD r.2.1,iD r.2.2.1,iD r.2.2.2.1,.p (.str r.2.2.2.2)])] (bD r.1):=by
 refine EC func61 Bfh ?_;unfold H2 at i;exact zO i
def YH(b:List Sfm):Int×Int×Int×Ad×Int->Option ((Int×Int×Int×Ad×Int)⊕((Int×Int×Int×Ad×Int)⊕(Int×Int×Int×Int×Ad)))
 | (e,f,g,i,a)=>cond (a<(b.length:Int)) ((CU b a).bind λ HB=>(H2 HB e f g i).bind λ (I6,Fo,PY,Wu,G8)=>cond I6 (some (.inr (.inr (((a,Fo,PY,Wu,G8):Int×Int×Int×Int×Ad))))) (some (.inl (Fo,PY,Wu,G8,(i64.wrap (a+1)))))) (some (.inr (.inl (e,f,g,i,a))))
def S9(g:List Sfm)(i:Int)(j:Int)(k:Int)(l:Ad):Option (Int×Int×Int×Int×Ad):=
 (C9 (YH g) (i,j,k,l,0)).bind (λ | .inl (b,J7,e,f,m)=>some ((-1),b,J7,e,f) | .inr (a)=>some a)
theorem Arz{e f g i j r}(a:S9 e f g i j=some r):
   Rq 52 [sD (Km e),.fn 61 [.ptr 1000000 0]] [(1000000,.box [iD f,iD g,iD i,.p (.str j)])] [(1000000,.box [iD r.2.1,iD r.2.2.1,iD r.2.2.2.1,.p (.str r.2.2.2.2)])] (iD r.1):=by
 refine EC func52 Aoo ?_;unfold S9 at a;obtain ⟨k,b,a⟩:=bE a;refine Bb7 b [0,1,7] [] (λ q=>[(8,iD q.2.2.2.2)]) (λ q=>[(1000000,.box [iD q.1,iD q.2.1,iD q.2.2.1,.p (.str q.2.2.2.1)])]) ?_;rintro ⟨m,n,o,s,l⟩ _ Dp L1;rw[YH.eq_1] at Dp;obtain ⟨_,Dp⟩ | ⟨_,Dp⟩:=cK Dp
 . cases kR Dp;exact zO a
 obtain ⟨_,Dp,_⟩:=jK Qy Dp;refine FI Dp R7 ?_;rintro ⟨_,_,_,_,_⟩ Dp;obtain ⟨_,Dp⟩ | ⟨_,Dp⟩:=cK Dp
 . exact ALs (L1 _ _ (kI Dp))
 cases kR Dp;exact zO a
attribute [-go_sem] asD
def Aau(n:Int):Option Ad:=if -9223372036854775808<=n/\n<=9223372036854775807 then some (MR n) else none
theorem Ax6{n r}(h:Aau n=some r):C3 prog 106 [iD n] [(1000000,(.Ev 3 Kx))] λ h d=>h=[(1000000,(.Ev 3 Kx))]/\d= .p (.str r):=by
 unfold Aau at h;split at h
 . rename_i c;cases h;exact Bjc n c.1 c.2
 . cases h
def Xg(e:List MY):Ae×Int->Option ((Ae×Int)⊕((Ae×Int)))
 | (a,b)=>cond (b<(e.length:Int)) ((CU e b).bind λ HB=>cond (Wn HB) ((Aau (RH HB)).bind λ Wu=>cond (a.length+1<10000000) (some (.inl ((a++[Wu]),(i64.wrap (b+1))))) none) (cond ((Aeu HB)=[]) (some (.inl (a,(i64.wrap (b+1))))) (cond (a.length+1<10000000) (some (.inl ((a++[(Aeu HB)]),(i64.wrap (b+1))))) none))) (some (.inr (a,b)))
def T8(a:List MY):Option Ad:=
 (C9 (Xg a) ([],0)).bind (λ (v28,J7)=>(T9 v28 [32]).bind λ O4=>cond (O4.length+[10].length<10000000) (some (O4++[10])) none)
theorem A1{p:Prop}(h:p:=by simp[E8,D.ids,JF,AO.ids,get]):p:=h
theorem Ah0{e r}(a:T8 e=some r):
   Rq 60 [sD (HS e)] [(1000000,(.Ev 3 Kx))] [(1000000,(.Ev 3 Kx))] (.p (.str r)):=by
 refine EC func60 Bfi ?_;unfold T8 at a;obtain ⟨m,k,a⟩:=bE a;refine A ?_;refine E0 k (λ q=>⟨[(3,rD 31 q.1),(8,sD (HS e)),(9,iD ((e.length:Nat):Int)),(10,iD q.2)],[(31,.arr 9 1 (El q.1)),(1000000,(.Ev 3 Kx))],36⟩) ((Wk.nil (t:=3) (q:=31) (sz:=1) 9 rfl rfl AV).trans FGs) ?_;rintro ⟨o,u⟩ _ Ip b;rw[Xg.eq_1] at Ip;obtain ⟨_,Ip⟩ | ⟨_,Ip⟩:=cK Ip
 . cases kR Ip;obtain ⟨Lq,l,a⟩:=bE a;refine A ?_;refine Gn ((Ah2 o [32] _ l).Ev (id:=1000000) AV rfl A1 (λ n r a=>by rw[a.1];rfl)) ?_;rintro s r ⟨n,⟨rfl,rfl⟩,rfl⟩;obtain ⟨f,a⟩:=gE a;have j:Lq.length+[10].length<=maxLen:=by have:=Bg f;(try dsimp only at this);unfold maxLen;omega
   have Cag:=j;(try simp only[go_sem] at Cag);exact zP a
 obtain ⟨_,Ip,_⟩:=jK Bak Ip;obtain ⟨_,Ip⟩ | ⟨_,Ip⟩:=cK Ip
 . obtain ⟨_,Ip⟩ | ⟨_,Ip⟩:=cK Ip
   . obtain ⟨g,Ip⟩:=gK Ip;refine G7 g ?_;exact ALs (b _ _ (kI Ip))
   exact ALs (b _ _ (kI Ip))
 refine FI Ip Ax6 λ _ Ip=>?_;obtain ⟨i,Ip⟩:=gK Ip;refine G7 i ?_;exact ALs (b _ _ (kI Ip))
def Oa(e:HW):Option (Ad×Bool):=
 (T8 [(MY.s [111,114,100,101,114]),(MY.s e.text)]).bind λ f=>cond (e.kind=1) ((Oc f).bind λ (Pw,x47,x48)=>cond (x48=0) (cond ((Pw.length:Int)=1) ((CU Pw 0).bind λ UR=>(Jy UR.fs).bind λ (Vv,x57)=>cond (x57=0) (some (f,(decide (Vv.kind=e.kind)&&(decide (Vv.a=e.a)&&(decide (Vv.b=e.b)&&decide (Vv.text=e.text)))))) (some (f,false))) (some ([],false))) (some ([],false))) (Option.bind MD λ g=>(S9 g e.kind e.a e.b e.text).bind λ (x6,x7,x8,x9,JJ)=>cond (x6<0) (some ([],false)) (Option.bind MD λ Lq=>(CU Lq x6).bind λ Jp=>Option.bind MD λ OL=>(CU OL x6).bind λ I6=>cond (0<=(i64.wrap (1+I6.numbers))/\(i64.wrap (1+I6.numbers))<=3) ((T8 ([(MY.s Jp.word),(MY.i x8),(MY.i x9)].take (Int.toNat (i64.wrap (1+I6.numbers))))).bind λ T0=>(Oc T0).bind λ (OK,LG,KP)=>cond (KP=0) (cond ((OK.length:Int)=1) ((CU OK 0).bind λ R3=>(Jy R3.fs).bind λ (KO,x42)=>cond (x42=0) (some (T0,(decide (KO.kind=x7)&&(decide (KO.a=x8)&&(decide (KO.b=x9)&&decide (KO.text=JJ)))))) (some (T0,false))) (some ([],false))) (some ([],false))) none))
theorem Ak2{x r}(a:Oa x=some r):
   Rq 28 [.agg x.c] [(1000000,(.Ev 3 Kx))] [(1000000,(.Ev 3 Kx))] (.Em [.p (.str r.1),bD r.2]):=by
 refine EC func28 Bg2 ?_;unfold Oa at a;refine Eb a Ah0 λ B a=>?_;obtain ⟨y,a⟩ | ⟨y,a⟩:=cE a
 . obtain ⟨_,z,a⟩:=bE a;refine A ?_;refine Gn ((Ob z).Ev (id:=1000000) AV rfl A1 (λ b r a=>by rw[a.1];rfl)) ?_;rintro g r ⟨b,⟨rfl,rfl⟩,rfl⟩;obtain ⟨⟨_,_,_,_,_⟩,l,a⟩:=bE a;refine A ?_;refine Gn ((Arz l).Ev (id:=1000001) AV rfl A1 (λ b r a=>by rw[a.1];rfl)) ?_;rintro g r ⟨b,⟨rfl,rfl⟩,rfl⟩;obtain ⟨_,a⟩ | ⟨_,a⟩:=cE a
   . refine Hs [10,60,70,80,90,100,110,2,20,30,40,50,121,130] ?_;obtain ⟨_,m,a⟩:=bE a;refine A ?_;refine Avi ((Ob m).Ev (id:=1000000) AV rfl A1 (λ b r a=>by rw[a.1];rfl)) ?_;rintro g r ⟨b,⟨rfl,rfl⟩,rfl⟩;obtain ⟨_,a,_⟩:=jE Qy a;obtain ⟨_,n,a⟩:=bE a;refine A ?_;refine Gn ((Ob n).Ev (id:=1000000) AV rfl A1 (λ b r a=>by rw[a.1];rfl)) ?_;rintro g r ⟨b,⟨rfl,rfl⟩,rfl⟩;obtain ⟨I6,a,_⟩:=jE Qy a;obtain ⟨k,a⟩:=gE a;have _:=Bg k;have _:(Int.toNat (i64.wrap (1+I6.numbers)))<=3:=AQ;have _:(((i64.wrap (1+I6.numbers))) - 0).toNat=(Int.toNat (i64.wrap (1+I6.numbers))):=AT;obtain ⟨T0,o,a⟩:=bE a;(try simp only[go_sem, *,Gl,FX]);have i:=Ah0 o;rw[<-Gl] at i;simp only[Ry,Wi,Bhm,Bhl] at i;refine CcD i ?_;obtain ⟨⟨OK,_,_⟩,q,a⟩:=bE a;(try simp only[go_sem, *,Gl,FX]);refine Gn ((VX T0 _ q).Ev (id:=1000000) AV rfl A1 (λ b r a=>by rw[a.1];rfl)) ?_;rintro g r ⟨b,⟨rfl,rfl⟩,rfl⟩;obtain ⟨e,a⟩ | ⟨e,a⟩:=cE a
     . cases a;(try simp only[go_sem, *,Gl,FX]);all_goals (try refine Ds ?_)
       all_goals (try simp only[go_sem,e,Gl,FX])
       all_goals (try (first | rfl | exact ⟨rfl,rfl⟩ | exact Pp _ _ | exact Rx _ | (simp;done)))
     obtain ⟨j,a⟩ | ⟨j,a⟩:=cE a
     . cases a;(try simp only[go_sem, *,Gl,FX]);all_goals (try refine Ds ?_)
       all_goals (try simp only[go_sem,e,j,Gl,FX])
       all_goals (try (first | rfl | exact ⟨rfl,rfl⟩ | exact Pp _ _ | exact Rx _ | (simp;done)))
     obtain ⟨_,a,s,_⟩:=iE a;have _:(Lh OK).getD 0 []=_:=Al1 s;obtain ⟨⟨_,_⟩,t,a⟩:=bE a;(try simp only[go_sem, *,Gl,FX]);refine Gn ((S8 t).Ev (id:=1000000) AV rfl A1 (λ b r a=>by rw[a.1];rfl)) ?_;rintro g r ⟨b,⟨rfl,rfl⟩,rfl⟩;(try simp only[go_sem, *,Gl,FX]);refine Atz [0,0,0,0,0,0,0,0,0,0] ?_;obtain ⟨f,a⟩ | ⟨f,a⟩:=cE a
     . cases a;(try simp only[go_sem, *,Gl,FX]);all_goals (try refine Ds ?_)
       all_goals (try simp only[go_sem,f,Gl,FX])
       all_goals (try (first | rfl | exact ⟨rfl,rfl⟩ | exact Pp _ _ | exact Rx _ | (simp;done)))
     cases a;(try simp only[go_sem, *,Gl,FX]);all_goals (try refine Ds ?_)
     all_goals (try simp only[go_sem,f,Gl,FX])
     all_goals (try (first | rfl | exact ⟨rfl,rfl⟩ | exact Pp _ _ | exact Rx _ | (simp;done)))
   exact zP a
 obtain ⟨⟨Pw,_,_⟩,u,a⟩:=bE a;refine A ?_;refine Gn ((VX B _ u).Ev (id:=1000000) AV rfl A1 (λ b r a=>by rw[a.1];rfl)) ?_;rintro g r ⟨b,⟨rfl,rfl⟩,rfl⟩;refine cP a λ _ a=>?_;refine cP a λ _ a=>?_;obtain ⟨_,a,v,_⟩:=iE a;have _:(Lh Pw).getD 0 []=_:=Al1 v;obtain ⟨⟨_,_⟩,w,a⟩:=bE a;refine A ?_;refine Gn ((S8 w).Ev (id:=1000000) AV rfl A1 (λ b r a=>by rw[a.1];rfl)) ?_;rintro g r ⟨b,⟨rfl,rfl⟩,rfl⟩;refine Dd [0,0,0,0,0,0,0,0,0,0] ?_;refine cP a λ _ a=>?_;exact zP a
def Xb:Option (Bool):=
 (S7 [111,114,100,101,114,32,116,97,115,107,32,97,32,98,10,100,111,119,110,32,48,32,49,32,35,32,105,116,32,97,114,114,105,118,101,115,10,111,114,100,101,114,10]).bind λ (x1,x2,x3)=>cond (x3=0) (cond (x2=0) (cond ((x1.length:Int)=3) ((CU x1 0).bind λ e=>cond ((e.kind=1)&&(decide (e.a=0)&&(decide (e.b=0)&&decide (e.text=[116,97,115,107,32,97,32,98])))) ((CU x1 1).bind λ Lq=>cond ((Lq.kind=2)&&(decide (Lq.a=0)&&(decide (Lq.b=1)&&decide (Lq.text=[])))) ((CU x1 2).bind λ RO=>some (decide (RO.kind=1)&&(decide (RO.a=0)&&(decide (RO.b=0)&&decide (RO.text=[]))))) (some false)) (some false)) (some false)) (some false)) (some false)
theorem Arv{r}(a:Xb=some r):
   Rq 5 [] [] [] (bD r):=by
 refine EC func5 Bk2 ?_;unfold Xb at a;refine Eb a Rj ?_;rintro ⟨f,_,_⟩ a;refine cP a λ _ a=>?_;refine cP a λ _ a=>?_;refine cP a λ _ a=>?_;obtain ⟨_,a,g,_⟩:=iE a;have _:(GI f).getD 0 []=_:=TA g;refine cP a λ _ a=>?_;obtain ⟨_,a,b,_⟩:=iE a;have _:(GI f).getD 1 []=_:=TA b;refine cP a λ _ a=>?_;obtain ⟨_,a,e,_⟩:=iE a;have _:(GI f).getD 2 []=_:=TA e;exact zP a
def Rb(b:Int)(a:Int):Option (Int):=
 cond (a<=1) (some 0) (cond (¬a=0) (cond ((Int.tmod b a)<0) (some (i64.wrap ((Int.tmod b a)+a))) (some (Int.tmod b a))) none)
theorem W9{b e r}(a:Rb b e=some r):
   Rq 33 [iD b,iD e] [] [] (iD r):=by
 refine EC func33 Adp ?_;unfold Rb at a;obtain ⟨_,a⟩ | ⟨_,a⟩:=cE a
 . obtain ⟨f,a⟩:=gE a;have _:=Bg f;refine cP a λ _ a=>?_;exact zP a
 exact zP a
def EE(b:Aa)(a:Int)(e:Int):Option (Int×Aa×Int):=
 cond (a<(b.length:Int)) ((CU b a).bind λ g=>(Rb g e).bind λ i=>some (i,b,(i64.wrap (a+1)))) ((Rb (Int.tmod (i64.wrap (a*7)) 11) e).bind λ f=>some (f,b,(i64.wrap (a+1))))
theorem Ef{b e f r}(a:EE b e f=some r):
   Rq 14 [.ptr 1000000 0,iD f] [(1000000,.box [sD (CS b),iD e])] [(1000000,.box [sD (CS r.2.1),iD r.2.2])] (iD r.1):=by
 refine EC func14 Adr ?_;unfold EE at a;refine Dd [0,0,0,0,0,0,0,0,0,0] ?_;obtain ⟨_,a⟩ | ⟨_,a⟩:=cE a
 . refine Eb a W9 λ _ a=>?_;exact zO a
 refine Dd [0,0,0,0,0,0,0,0,0,0,0] ?_;obtain ⟨_,a,_⟩:=jE Dk a;refine Eb a W9 λ _ a=>?_;exact zO a
def Qd(OL:Int):Aa×Int×Int×Ad->Option ((Aa×Int×Int×Ad)⊕((Aa×Int×Int×Ad)))
 | (e,f,b,a)=>(CU ([2,2,2,2,2,2,2,1,1,1,1,0]:Aa) OL).bind λ g=>(EE e f 9).bind λ (x53,x54,x55)=>cond (b<(i64.wrap (g+(i64.wrap (Int.tdiv x53 8))))) ((EE x54 x55 3).bind λ (x60,x61,x62)=>(EE x61 x62 8).bind λ (TY,x65,x66)=>cond (TY=0) ((EE x65 x66 7).bind λ (x78,x79,x80)=>(CU [[48],[49],[50],[49,55],[97],[45,49],[102,108,101,101,116]] x78).bind λ Zk=>cond ([32].length+Zk.length<10000000) (cond (a.length+([32]++Zk).length<10000000) (some (.inl (x79,x80,(i64.wrap (b+1)),(a++([32]++Zk))))) none) none) ((CU [[48],[49],[50],[49,55],[97],[45,49],[102,108,101,101,116]] x60).bind λ UQ=>cond ([32].length+UQ.length<10000000) (cond (a.length+([32]++UQ).length<10000000) (some (.inl (x65,x66,(i64.wrap (b+1)),(a++([32]++UQ))))) none) none)) (some (.inr (x54,x55,b,a)))
def Abw:Lp (Aa×Int×Ad×Int) (Aa×Int×Ad×Int)
 | (f,e,a,b)=>cond (0<b) ((EE f e 12).bind λ (OL,Sj,I6)=>(EE Sj I6 6).bind λ (PY,Wu,G8)=>cond (0<PY) ((EE Wu G8 11).bind λ (Si,x98,x99)=>(CU [[111,114,100,101,114],[100,111,119,110],[117,112],[108,111,115,101,45,100,111,119,110],[108,111,115,101,45,117,112],[116,119,105,99,101,45,100,111,119,110],[116,119,105,99,101,45,117,112],[116,105,109,101,114],[100,114,105,118,101],[115,101,114,118,101],[102,97,117,108,116],[104,97,108,116]] Si).bind λ R4=>cond (a.length+R4.length<10000000) ((C9 (Qd Si) (x98,x99,0,(a++R4))).bind (λ (v164,Bqf,v166,v167)=>cond (v167.length+[10].length<10000000) (some (.inl (v164,Bqf,(v167++[10]),(i64.wrap (b - 1))))) none)) none) ((CU [[111,114,100,101,114],[100,111,119,110],[117,112],[108,111,115,101,45,100,111,119,110],[108,111,115,101,45,117,112],[116,119,105,99,101,45,100,111,119,110],[116,119,105,99,101,45,117,112],[116,105,109,101,114],[100,114,105,118,101],[115,101,114,118,101],[102,97,117,108,116],[104,97,108,116]] OL).bind λ ON=>cond (a.length+ON.length<10000000) ((C9 (Qd OL) (Wu,G8,0,(a++ON))).bind (λ (v91,v92,v93,v94)=>cond (v94.length+[10].length<10000000) (some (.inl (v91,v92,(v94++[10]),(i64.wrap (b - 1))))) none)) none)) (some (.inr (f,e,a,b)))
def Aap(a:Aa):Option Ad:=
 (EE a 0 8).bind λ (x1,x2,x3)=>(C9 Abw (x2,x3,[],x1)).bind (λ (v170,v171,Bmy,v173)=>some Bmy)
theorem Awb{a0 r}(f:Aap a0=some r):
   Rq 6 [sD (CS a0)] [] [] (.p (.str r)):=by
 refine EC func6 Bk1 ?_;unfold Aap at f;refine Eb f Ef ?_;rintro ⟨_,_,_⟩ f;obtain ⟨b6,a9,f⟩:=bE f;refine Bb7 a9 [3,4,5,6] [15,16,17] (λ q=>[(7,.p (.str q.2.2.1)),(8,iD q.2.2.2)]) (λ q=>[(14,.box [sD (CS q.1),iD q.2.1])]) ?_;rintro ⟨v9,c1,H,c2⟩ _ ED Acv;rw[Abw.eq_1] at ED;obtain ⟨_,ED⟩ | ⟨_,ED⟩:=cK ED
 . cases kR ED;exact zP f
 refine FI ED Ef ?_;rintro ⟨OL,_,_⟩ ED;refine FI ED Ef ?_;rintro ⟨_,_,_⟩ ED;obtain ⟨_,ED⟩ | ⟨_,ED⟩:=cK ED
 . obtain ⟨ON,y,ED⟩:=bK ED;have _:0<=OL/\OL<12:=by have:=ER y;simp only[Br,Bx] at this;omega
   have T:(El [[111,114,100,101,114],[100,111,119,110],[117,112],[108,111,115,101,45,100,111,119,110],[108,111,115,101,45,117,112],[116,119,105,99,101,45,100,111,119,110],[116,119,105,99,101,45,117,112],[116,105,109,101,114],[100,114,105,118,101],[115,101,114,118,101],[102,97,117,108,116],[104,97,108,116]]).getD (Int.toNat OL) []=[(.str ON)]:=D3 _ y;have U:=T;(try simp only[Gb,F5,F9,Hg,F8,Hf,Gi,Hh,Nj,FA,BN] at U);obtain ⟨I,ED⟩:=gK ED;have V:H.length+ON.length<=maxLen:=by have:=Bg I;(try dsimp only at this);unfold maxLen;omega
   have Cae:=V;(try simp only[go_sem] at Cae);obtain ⟨c0,b0,ED⟩:=bK ED;refine Bb7 b0 [3,4,5,6,8,9] [15,16,17] (λ q=>[(7,.p (.str q.2.2.2)),(10,iD q.2.2.1)]) (λ q=>[(14,.box [sD (CS q.1),iD q.2.1])]) ?_;rintro ⟨c3,c4,c5,a⟩ _ J1 Brj;rw[Qd.eq_1] at J1;refine C4 [16] [0,0,0,0,0,0,2,0,0,0] ?_;obtain ⟨b1,z,J1⟩:=bK J1;have _:0<=OL/\OL<12:=by have:=ER z;simp only[Br,Bx] at this;omega
   have W:(CS [2,2,2,2,2,2,2,1,1,1,1,0]).getD (Int.toNat OL) []=[(.int .i64 b1)]:=D3 _ z;have Y:=W;(try simp only[Gb,F5,F9,Hg,F8,Hf,Gi,Hh,Nj,FA,BN] at Y);refine Sh J1 Ef ?_;rintro ⟨_,_,_⟩ J1;obtain ⟨_,J1⟩ | ⟨_,J1⟩:=cK J1
   . cases kR J1;obtain ⟨K,ED⟩:=gK ED;have Z:a.length+[10].length<=maxLen:=by have:=Bg K;(try dsimp only at this);unfold maxLen;omega
     have Caa:=Z;(try simp only[go_sem] at Caa);exact ALs (Acv _ _ (kI ED))
   refine FI J1 Ef ?_;rintro ⟨b,_,_⟩ J1;refine FI J1 Ef ?_;rintro ⟨_,_,_⟩ J1;obtain ⟨_,J1⟩ | ⟨_,J1⟩:=cK J1
   . obtain ⟨UQ,B,J1⟩:=bK J1;have _:0<=b/\b<7:=by have:=ER B;simp only[Br,Bx] at this;omega
     have a1:(El [[48],[49],[50],[49,55],[97],[45,49],[102,108,101,101,116]]).getD (Int.toNat b) []=[(.str UQ)]:=D3 _ B;have a2:=a1;(try simp only[Gb,F5,F9,Hg,F8,Hf,Gi,Hh,Nj,FA,BN] at a2);obtain ⟨N,J1⟩:=gK J1;have a3:[32].length+UQ.length<=maxLen:=by have:=Bg N;(try dsimp only at this);unfold maxLen;omega
     have Ca6:=a3;(try simp only[go_sem] at Ca6);obtain ⟨Q,J1⟩:=gK J1;have a4:a.length+([32]++UQ).length<=maxLen:=by have:=Bg Q;(try dsimp only at this);unfold maxLen;omega
     have Ca4:=a4;(try simp only[go_sem] at Ca4);exact ALs (Brj _ _ (kI J1))
   refine FI J1 Ef ?_;rintro ⟨e,_,_⟩ J1;obtain ⟨Zk,E,J1⟩:=bK J1;have _:0<=e/\e<7:=by have:=ER E;simp only[Br,Bx] at this;omega
   have a5:(El [[48],[49],[50],[49,55],[97],[45,49],[102,108,101,101,116]]).getD (Int.toNat e) []=[(.str Zk)]:=D3 _ E;have a6:=a5;(try simp only[Gb,F5,F9,Hg,F8,Hf,Gi,Hh,Nj,FA,BN] at a6);obtain ⟨R,J1⟩:=gK J1;have a7:[32].length+Zk.length<=maxLen:=by have:=Bg R;(try dsimp only at this);unfold maxLen;omega
   have Ca2:=a7;(try simp only[go_sem] at Ca2);obtain ⟨S,J1⟩:=gK J1;have a8:a.length+([32]++Zk).length<=maxLen:=by have:=Bg S;(try dsimp only at this);unfold maxLen;omega
   have Bop:=a8;(try simp only[go_sem] at Bop);exact ALs (Brj _ _ (kI J1))
 refine FI ED Ef ?_;rintro ⟨Si,_,_⟩ ED;obtain ⟨R4,Bsp,ED⟩:=bK ED;have _:0<=Si/\Si<12:=by have:=ER Bsp;simp only[Br,Bx] at this;omega
 have g:(El [[111,114,100,101,114],[100,111,119,110],[117,112],[108,111,115,101,45,100,111,119,110],[108,111,115,101,45,117,112],[116,119,105,99,101,45,100,111,119,110],[116,119,105,99,101,45,117,112],[116,105,109,101,114],[100,114,105,118,101],[115,101,114,118,101],[102,97,117,108,116],[104,97,108,116]]).getD (Int.toNat Si) []=[(.str R4)]:=D3 _ Bsp;have i:=g;try simp only[Gb,F5,F9,Hg,F8,Hf,Gi,Hh,Nj,FA,BN] at i
 obtain ⟨Cb4,ED⟩:=gK ED;have j:H.length+R4.length<=maxLen:=by have:=Bg Cb4;(try dsimp only at this);unfold maxLen;omega
 have Bt6:=j;try simp only[go_sem] at Bt6
 obtain ⟨b2,Bzw,ED⟩:=bK ED;refine Bb7 Bzw [3,4,5,6,8,9] [15,16,17] (λ q=>[(7,.p (.str q.2.2.2)),(10,iD q.2.2.1)]) (λ q=>[(14,.box [sD (CS q.1),iD q.2.1])]) ?_;rintro ⟨b3,b4,b5,Bn4⟩ _ G1 Ble;rw[Qd.eq_1] at G1;refine C4 [16] [0,0,0,0,0,0,2,0,0,0] ?_;obtain ⟨Alx,Bsn,G1⟩:=bK G1;have _:0<=Si/\Si<12:=by have:=ER Bsn;simp only[Br,Bx] at this;omega
 have k:(CS [2,2,2,2,2,2,2,1,1,1,1,0]).getD (Int.toNat Si) []=[(.int .i64 Alx)]:=D3 _ Bsn;have l:=k;try simp only[Gb,F5,F9,Hg,F8,Hf,Gi,Hh,Nj,FA,BN] at l
 refine Sh G1 Ef ?_;rintro ⟨_,_,_⟩ G1;obtain ⟨_,G1⟩ | ⟨_,G1⟩:=cK G1
 . cases kR G1;obtain ⟨Bp0,ED⟩:=gK ED;have m:Bn4.length+[10].length<=maxLen:=by have:=Bg Bp0;(try dsimp only at this);unfold maxLen;omega
   have Bel:=m;(try simp only[go_sem] at Bel);exact ALs (Acv _ _ (kI ED))
 refine FI G1 Ef ?_;rintro ⟨Af4,_,_⟩ G1;refine FI G1 Ef ?_;rintro ⟨_,_,_⟩ G1;obtain ⟨_,G1⟩ | ⟨_,G1⟩:=cK G1
 . obtain ⟨Aj4,Bsl,G1⟩:=bK G1;have _:0<=Af4/\Af4<7:=by have:=ER Bsl;simp only[Br,Bx] at this;omega
   have n:(El [[48],[49],[50],[49,55],[97],[45,49],[102,108,101,101,116]]).getD (Int.toNat Af4) []=[(.str Aj4)]:=D3 _ Bsl;have o:=n;(try simp only[Gb,F5,F9,Hg,F8,Hf,Gi,Hh,Nj,FA,BN] at o);obtain ⟨Boz,G1⟩:=gK G1;have s:[32].length+Aj4.length<=maxLen:=by have:=Bg Boz;(try dsimp only at this);unfold maxLen;omega
   have Bek:=s;(try simp only[go_sem] at Bek);obtain ⟨Cau,G1⟩:=gK G1;have t:Bn4.length+([32]++Aj4).length<=maxLen:=by have:=Bg Cau;(try dsimp only at this);unfold maxLen;omega
   have Bsy:=t;(try simp only[go_sem] at Bsy);exact ALs (Ble _ _ (kI G1))
 refine FI G1 Ef ?_;rintro ⟨Aqz,_,_⟩ G1;obtain ⟨Px,Bsk,G1⟩:=bK G1;have _:0<=Aqz/\Aqz<7:=by have:=ER Bsk;simp only[Br,Bx] at this;omega
 have u:(El [[48],[49],[50],[49,55],[97],[45,49],[102,108,101,101,116]]).getD (Int.toNat Aqz) []=[(.str Px)]:=D3 _ Bsk;have v:=u;try simp only[Gb,F5,F9,Hg,F8,Hf,Gi,Hh,Nj,FA,BN] at v
 obtain ⟨Car,G1⟩:=gK G1;have w:[32].length+Px.length<=maxLen:=by have:=Bg Car;(try dsimp only at this);unfold maxLen;omega
 have Bsv:=w;try simp only[go_sem] at Bsv
 obtain ⟨Cap,G1⟩:=gK G1;have x:Bn4.length+([32]++Px).length<=maxLen:=by have:=Bg Cap;(try dsimp only at this);unfold maxLen;omega
 have Bst:=x;try simp only[go_sem] at Bst
 exact ALs (Ble _ _ (kI G1))
theorem Atr:C3 prog 30 [.ptr 1000000 0] [(1000000,.box [.np,.cl []] 98)] λ h r=>h=[(1000000,.box [.np,.cl []] 98)]/\r=iD 0:=by
 refine Dx func30 rfl Aou (by simp[Tryz.f30]) ?_;simp only[go_sem];all_goals (try refine Ds ?_)
 all_goals (try simp only[go_sem])
 all_goals (try exact ⟨rfl,rfl⟩)
theorem Bb0(l):C3 prog 30 [.ptr 1000000 0] [(1000000,.box [.ptr 1000000 0,rD 1000001 l] 98),(1000001,.arr 5 1 (Gz l))] λ h r=>h=[(1000000,.box [.ptr 1000000 0,rD 1000001 l] 98),(1000001,.arr 5 1 (Gz l))]/\r=iD (l.length:Nat):=by
 refine Dx func30 rfl Aou (by simp[Tryz.f30]) ?_;simp only[go_sem,J5];all_goals (try refine DF ?_)
 all_goals (try simp only[go_sem,J5])
 all_goals (try exact ⟨rfl,rfl⟩)
def Se(W:HW->Ad×Bool)(es:Av):Ad:=es.flatMap λ e=>(W e).1
def Ada(W:HW->Ad×Bool)(es:Av):Ad×Int:=
 if 4000<es.length then ([],14) else if es.all (λ e=>(W e).2) then (if 6000<(Se W es).length then ([],1) else (Se W es,0)) else ([],20)
def fmtS(l:Av)(i:Nat)(a:Ad):St:=
 ⟨[(4,.ptr 4 0),(12,.p (.sl (GI l))),(13,.p (.int .i64 (l.length:Nat))),(14,.p (.int .i64 (i:Nat)))],
   match i with
   | 0=>[(4,.box [.np,.cl []] 98),(1000000,(.Ev 3 Kx))]
   | _+1=>[(4,.box [.ptr 4 0,.ref 10026 0 a.length a.length] 98),(10026,.arr 5 1 (Gz a)),(1000000,(.Ev 3 Kx))],31⟩
theorem Bjx(l)(i)(x)(h:l[i]?=some x):(GI l).getD i []=[.int .i64 x.kind,.int .i64 x.a,.int .i64 x.b,.str x.text]:=by
 simp[GI,List.getD,h]
theorem Ary(W:HW->Ad×Bool)(es)(I:∀e∈es,Oa e=some (W e))(EG:∀e∈es,(W e).2=true->(W e).1≠[]/\(W e).1.length<=10000)(S:es.length<=10000000):
   C3 prog 11 [sD (GI es)] [(1000000,(.Ev 3 Kx))] λ h r=>h=[(1000000,(.Ev 3 Kx))]/\r= .Em [.p (.str (Ada W es).1),iD (Ada W es).2]:=by
 refine Dx func11 rfl Bgd (by simp[Tryz.f11]) ?_;simp only[go_sem,Gj];cases s:decide (4000<(es.length:Int));rotate_left
 . have:4000<es.length:=by have:=Bg s;omega
   simp only[go_sem,s];all_goals (try refine Ds ?_)
   simp only[go_sem];simp[Ada,this]
 have B:¬4000<es.length:=by have:=Bh s;omega
 simp only[go_sem,s];refine Dq (λ q:Nat×Ad=>fmtS es q.1 q.2)
   (λ q=>q.1<=es.length/\q.2=Se W (es.take q.1)/\q.2.length<=10000*q.1/\(∀e∈es.take q.1,(W e).2=true)/\(q.1≠0->q.2≠[])) (λ q=>es.length - q.1) (0,[])
   ⟨BQ _,by simp[Se],AT,AT,AT⟩ (Wk.forget (by simp[ZF,fmtS])) ?_
 rintro ⟨i,a⟩ n ⟨N,b,RX,FE,m⟩ H;simp only at N b RX FE m;rcases Nat.lt_or_ge i es.length with Dv | K
 . have hx:es[i]?=some es[i]:=by simp[Dv]
   have JN:es[i]∈es:=Cm Dv;have v:=Bjx es i _ hx;have o:es.take (i+1)=es.take i++[es[i]]:=by rw[CG Dv]
   have y:=I _ JN;have z:=EG _ JN;generalize es[i]=x at*;have FU:(0:Int)<=(i:Int)/\(i:Int)<(es.length:Int):=AQ;have hid:decide ((i:Int)<(es.length:Int))=true:=Bi AQ;have R:=DQ i AQ;have u:=Ak2 y;cases hb:(W x).2
   . have Nw:Ada W es=([],20):=by
       unfold Ada;rw[if_neg B,if_neg];intro h;have:=BB.1 h x JN;rw[hb] at this;cases this
     rw[Nw];cases i with
     | zero=>
       have Og:(0:Int)<(es.length:Int):=AQ;have Bod:decide ((0:Int)<(es.length:Int))=true:=Bi Og;simp only[fmtS];simp only[go_sem,Gj,Bod,Og,Int.reduceToNat,v];refine Cq ((u)) ?_;simp only[go_sem,hb];all_goals (try refine DF ?_)
       all_goals (try simp only[go_sem])
       all_goals (try exact ⟨rfl,rfl⟩)
     | succ i=>
       simp only[fmtS];simp only[go_sem,Gj,hid,FU,Be,v];refine Cq ((u)) ?_;simp only[go_sem,hb];all_goals (try refine DF ?_)
       all_goals (try simp only[go_sem])
       all_goals (try exact ⟨rfl,rfl⟩)
   . obtain ⟨ZV,Q⟩:=z hb;have Yl:Se W (es.take (i+1))=a++(W x).1:=by rw[o,b];simp[Se]
     have Blp:∀e∈es.take (i+1),(W e).2=true:=by
       intro e E;rw[o] at E;rcases BC.1 E with h | h
       . exact FE e h
       . rw[BF.1 h];exact hb
     cases i with
     | zero=>
       have j:a=[]:=by rw[b];simp[Se]
       subst j;have Og:(0:Int)<(es.length:Int):=AQ;have Bod:decide ((0:Int)<(es.length:Int))=true:=Bi Og;have Brn:i64.wrap 1=1:=rfl;simp only[fmtS];simp only[go_sem,Gj,Bod,Og,Int.reduceToNat,v];refine Cq ((u)) ?_;simp only[go_sem,hb];refine Gn ((Alf (W x).1 ZV AQ).Ev (id:=1000001) AV rfl A1 (λ f r g=>by rw[g.1];rfl)) ?_;rintro k r ⟨f,⟨rfl,rfl⟩,rfl⟩;simp only[go_sem,Brn];refine H (0+1,(W x).1) _ ⟨Dv,by rw[Yl];simp,by simp only;omega,Blp,λ _=>ZV⟩ A0 (Wk.forget (by simp[ZF,fmtS,Brn]))
     | succ i=>
       simp only[fmtS];simp only[go_sem,Gj,hid,FU,Be,v];refine Cq ((u)) ?_;simp only[go_sem,hb];refine Gn ((Aqc a (W x).1 AQ).Ev (id:=1000002) AV rfl A1 (λ f r g=>by rw[g.1];rfl)) ?_;rintro k r ⟨f,⟨rfl,rfl⟩,rfl⟩;simp only[go_sem,R];refine H (i+1+1,a++(W x).1) _ ⟨Dv,Yl.symm,by simp only[Bw];omega,Blp,λ _=>by simp[ZV]⟩ A0 (Wk.forget (by simp[ZF,fmtS]))
 . have l:i=es.length:=AQ;have hid:decide ((i:Int)<(es.length:Int))=false:=Bj AQ;rw[l,BH] at b FE;have Qm:Ada W es=if 6000<a.length then ([],1) else (a,0):=by
     unfold Ada;rw[if_neg B,if_pos (BB.2 FE),b]
   rw[Qm];clear Qm;cases i with
   | zero=>
     have Vn:es=[]:=B0 l.symm;subst Vn;have j:a=[]:=by rw[b];simp[Se]
     subst j;simp only[fmtS,Bx];simp only[go_sem,Gj];refine Gn ((Atr).Ev (id:=1000001) AV rfl A1 (λ f r g=>by rw[g.1];rfl)) ?_;rintro k r ⟨f,⟨rfl,rfl⟩,rfl⟩;simp only[go_sem];refine Gn ((Aqf (T:=98) AV).Ev (id:=1000001) AV rfl A1 (λ f r g=>by rw[g.1];rfl)) ?_;rintro k r ⟨f,⟨rfl,rfl⟩,rfl⟩;simp only[go_sem];all_goals (try refine DF ?_)
     all_goals (try simp only[go_sem])
     all_goals (try exact ⟨rfl,rfl⟩)
   | succ i=>
     have Bys:=m AQ;simp only[fmtS];simp only[go_sem,Gj,hid];refine Gn ((Bb0 a).Ev (id:=1000002) AV rfl A1 (λ f r g=>by rw[g.1];rfl)) ?_;rintro k r ⟨f,⟨rfl,rfl⟩,rfl⟩;cases t:decide (6000<(a.length:Int))
     . have w:¬6000<a.length:=by have:=Bh t;omega
       rw[if_neg w];simp only[go_sem,t];refine Gn ((Atp Bys).Ev (id:=1000002) AV rfl (by simp[E8,D.ids,JF,AO.ids,get,base]) (λ f r g=>by rw[g.1];rfl)) ?_;rintro k r ⟨f,⟨rfl,rfl⟩,rfl⟩;simp only[go_sem];all_goals (try refine DF ?_)
       all_goals (try simp only[go_sem])
       all_goals (try exact ⟨rfl,rfl⟩)
     . have w:6000<a.length:=by have:=Bg t;omega
       rw[if_pos w];simp only[go_sem,t];all_goals (try refine DF ?_)
       all_goals (try simp only[go_sem])
       all_goals (try exact ⟨rfl,rfl⟩)
def Acb:Ad:=[111,114,100,101,114]
def Nx:List Sfm:=[⟨[100,111,119,110],2,2⟩,⟨[117,112],3,2⟩,⟨[108,111,115,101,45,100,111,119,110],4,2⟩,⟨[108,111,115,101,45,117,112],5,2⟩,⟨[116,119,105,99,101,45,100,111,119,110],6,2⟩,⟨[116,119,105,99,101,45,117,112],7,2⟩,⟨[116,105,109,101,114],8,1⟩,⟨[100,114,105,118,101],9,1⟩,⟨[115,101,114,118,101],10,1⟩,⟨[102,97,117,108,116],11,1⟩]
def kw(w:Ad):Int×Int:=match Nx.find? (λ f=>decide (w=f.word)) with
 | some f=>(f.kind,f.numbers)
 | none=>(0,0)
def nmB(x:Ad):Bool:=(Hw x).2&&decide (0<=(Hw x).1)
def ev0:HW:=⟨0,0,0,[]⟩
def evN(k n:Int)(rest:Ae):HW×Int:=
 if k=0 then (ev0,4) else if (rest.length:Int)=n then (match rest with
   | [x]=>if nmB x then (⟨k,(Hw x).1,0,[]⟩,0) else (ev0,7)
   | [x,y]=>if nmB x&&nmB y then (⟨k,(Hw x).1,(Hw y).1,[]⟩,0) else (ev0,7)
   | _=>(ev0,7)) else (ev0,5)
def evV:Ae->HW×Int
 | []=>(ev0,4)
 | w::rest=>if w=Acb then (if 3<rest.length then (ev0,5) else (⟨1,0,0,Ej rest⟩,0)) else evN (kw w).1 (kw w).2 rest
theorem Ts(w)(rest):evV (w::rest)=if w=Acb then (if 3<rest.length then (ev0,5) else (⟨1,0,0,Ej rest⟩,0)) else evN (kw w).1 (kw w).2 rest:=rfl
theorem Bja{α:Type}{l:List α}(h:l.length=2):∃x y,l=[x,y]:=by
 match l,h with
 | [x,y],_=>exact ⟨x,y,rfl⟩
theorem Bd3(w):kw w=(0,0)∨((kw w).2=1∨(kw w).2=2)/\2<=(kw w).1/\(kw w).1<=11:=by
 unfold kw;cases h:Nx.find? (λ f=>decide (w=f.word)) with
 | none=>exact .inl rfl
 | some f=>
   right;have a:=List.mem_of_find?_eq_some h;simp only[Nx,BU,BN,or_false] at a;rcases a with rfl | rfl | rfl | rfl | rfl | rfl | rfl | rfl | rfl | rfl<;>simp
theorem Am2{n}(h:0<=n/\n<=100):i64.wrap (1+n)=1+n:=C2 AQ AQ
theorem Bcr(x):nmB x=true↔(Hw x).2=true/\0<=(Hw x).1:=by simp[nmB]
theorem Aav:∀f∈Nx,(f.numbers=1∨f.numbers=2)/\2<=f.kind/\f.kind<=11:=AV
theorem Aca:MD=some Nx:=rfl
theorem Bei(g)(w)(rest)(y:g.length<=1000):DU (GC g (w::rest)) (λ r=>r.2=w::rest/\((r.1=-1/\g.find? (λ f=>decide (w=f.word))=none)∨(0<=r.1/\∃f,g[r.1.toNat]?=some f/\g.find? (λ f=>decide (w=f.word))=some f))):=by
 unfold GC;refine tB (P:=λ e=>match e with
   | .inl s=>s.1=w::rest/\g.find? (λ f=>decide (w=f.word))=none
   | .inr r=>r.2=w::rest/\(0<=r.1/\∃f,g[r.1.toNat]?=some f/\g.find? (λ f=>decide (w=f.word))=some f)) (tL (λ s=>s.1=w::rest/\∃i:Nat,s.2=(i:Int)/\i<=g.length/\g.find? (λ f=>decide (w=f.word))=(g.drop i).find? (λ f=>decide (w=f.word))) (λ s=>g.length - s.2.toNat) ⟨rfl,0,rfl,AQ,AT⟩ ?_) ?_
 . rintro ⟨z,j⟩ ⟨o,i,h2,q,k⟩;dsimp only at o h2 q k;subst o h2;rw[IT.eq_1];refine tD (λ Dv=>tI AQ λ f p _=>?_) λ u=>tS ?_
   . have hx:g[i]?=some f:=by rw[Be] at p;exact p
     have t:g.drop i=f::g.drop (i+1):=by
       obtain ⟨v,x⟩:=Bn.1 hx;rw[List.drop_eq_getElem_cons v,x]
     rw[t,List.find?_cons] at k;unfold IX;rw[show CU (w::rest) 0=some w from rfl,Bd,Bd];by_cases l:w=f.word
     . have m:decide (f.word=w)=true:=Bi l.symm;have n:decide (w=f.word)=true:=Bi l;rw[n] at k;simp only[m,Bm];exact tS ⟨rfl,AS,f,by dsimp only;rw[Be];exact hx,k⟩
     . have m:decide (f.word=w)=false:=Bj (λ h=>l h.symm);have n:decide (w=f.word)=false:=Bj l;rw[n] at k;simp only[m,Bl];refine tS ⟨⟨rfl,i+1,?_,AQ,k⟩,?_⟩
       . dsimp only;rw[C2 AQ AQ];omega
       . dsimp only;rw[C2 AQ AQ];omega
   . refine ⟨rfl,?_⟩;rw[k,Cv AQ];rfl
 . rintro (⟨a,b⟩ | ⟨a,b⟩) h
   . exact tS ⟨h.1,.inl ⟨rfl,h.2⟩⟩
   . exact tS ⟨h.1,.inr h.2⟩
theorem ZP(b)(EG:b≠[])(Q:b.length<=10000)(T:szF b<=1000000):DU (Jy b) (λ r=>r=evV b):=by
 obtain ⟨w,rest,rfl⟩:∃w rest,b=w::rest:=by
   cases b with
   | nil=>exact (EG rfl).elim
   | cons w r=>exact ⟨w,r,rfl⟩
 simp only[Br,szF] at Q T;unfold Jy;have N:CU (w::rest) 0=some w:=rfl;have j:((w::rest).take (w::rest).length).drop 1=rest:=by rw[BH];rfl
 rw[N,Bd];rw[Ts];refine tD (λ z=>?_) λ z=>?_
 . rw[if_pos (show w=Acb from z)];refine tD (λ m=>tS ?_) λ m=>?_
   . rw[Br] at m;rw[if_pos (show 3<rest.length by omega)];rfl
   . rw[Br] at m;refine tG (by rw[Br];omega) λ _=>?_;rw[j];unfold T9;rw[if_pos ⟨rfl,AQ,AQ⟩,Bd];exact tS (by rw[if_neg (show ¬3<rest.length by omega)])
 . rw[Aca,Bd,if_neg (show ¬w=Acb from z)];refine tB (Bei Nx w rest AV) ?_;rintro ⟨i,W⟩ ⟨H,h2⟩;dsimp only at H h2;subst H;have s:=Bd3 w;have a:kw w=match Nx.find? (λ f=>decide (w=f.word)) with
     | some f=>(f.kind,f.numbers)
     | none=>(0,0):=rfl
   rcases h2 with ⟨h2,l⟩ | ⟨h2,f,l,m⟩
   . rw[l] at a;refine tD (λ _=>tS ?_) λ h=>AQ;rw[a];rfl
   . rw[m] at a;refine tD (λ h=>AQ) λ _=>?_;rw[Bd];have V:i.toNat<Nx.length:=(Bn.1 l).1;have H8:0<=i/\i<(Nx.length:Int):=⟨h2,by have:=Int.toNat_of_nonneg h2;omega⟩;refine tI H8 λ g I _=>?_;rw[l] at I;cases I;clear s;have s:=Aav f (Bt l);rw[a];dsimp only;obtain ⟨U,k,n⟩:=f;dsimp only at s ⊢;clear a l m;unfold evN;have Lo:¬k=0:=AQ;have R:n=1∨n=2:=s.1;rw[if_neg Lo,Am2 AQ];refine tD (λ hlen=>?_) λ hlen=>tS (by rw[Br] at hlen;rw[if_neg (show ¬(rest.length:Int)=n by omega)];rfl);rw[Br] at hlen;rw[if_pos (show (rest.length:Int)=n by omega)];refine tG (by rw[Br];omega) λ _=>?_;rcases R with rfl | rfl
     . obtain ⟨x,rfl⟩:∃x,rest=[x]:=List.length_eq_one_iff.1 AQ;have e:nmB x=((Hw x).2&&decide (0<=(Hw x).1)):=rfl;dsimp only;rw[e,L0,Kj.eq_1,j,show decide ((0:Int)<(([x].length:Nat):Int))=true from rfl,Bm,show CU [x] 0=some x from rfl,Bd];unfold Qh;rw[Bd];generalize Hw x=p;obtain ⟨v,B⟩:=p;cases B
       . exact tS rfl
       . by_cases o:v<0
         . have:¬0<=v:=AQ;simp only[o,decide_true,Bm,Bd,H7];exact tS (by simp[this];rfl)
         . have:0<=v:=AQ;simp only[o,decide_true,decide_false,Bm,Bl];rw[show Acx 2 (List.replicate 2 (0:Int)) 0=some 0 from rfl,Bd,Bd];simp only[H7];rw[L0,Kj.eq_1,j,show decide (i64.wrap (0+1)<(([x].length:Nat):Int))=false from rfl,Bl,Bd];simp only[H7];exact ⟨_,rfl,by simp[this]⟩
     . obtain ⟨x,y,rfl⟩:∃x y,rest=[x,y]:=Bja AQ;have e:nmB x=((Hw x).2&&decide (0<=(Hw x).1)):=rfl;have Byv:nmB y=((Hw y).2&&decide (0<=(Hw y).1)):=rfl;dsimp only;rw[e,Byv,L0,Kj.eq_1,j,show decide ((0:Int)<(([x,y].length:Nat):Int))=true from rfl,Bm,show CU [x,y] 0=some x from rfl,Bd];unfold Qh;rw[Bd];generalize Hw x=p;generalize S:Hw y=q;obtain ⟨v,B⟩:=p;obtain ⟨u,E⟩:=q;cases B
       . exact tS rfl
       . by_cases o:v<0
         . have:¬0<=v:=AQ;simp only[o,decide_true,Bm,Bd,H7];exact tS (by simp[this];rfl)
         . have:0<=v:=AQ;simp only[o,decide_true,decide_false,Bm,Bl];rw[show Acx 2 (List.replicate 2 (0:Int)) 0=some 0 from rfl,Bd,Bd];simp only[H7];rw[L0,Kj.eq_1,j,show decide (i64.wrap (0+1)<(([x,y].length:Nat):Int))=true from rfl,Bm,show CU [x,y] (i64.wrap (0+1))=some y from rfl,Bd];unfold Qh;rw[Bd,S];cases E
           . exact tS (by simp;rfl)
           . by_cases K:u<0
             . have:¬0<=u:=AQ;simp only[K,decide_true,Bm,Bd,H7];exact tS (by simp[this];rfl)
             . have t:0<=u:=AQ;simp only[K,decide_true,decide_false,Bm,Bl];rw[show Acx 2 ((List.replicate 2 (0:Int)).set (Int.toNat 0) v) (i64.wrap (0+1))=some 0 from rfl,Bd,Bd];simp only[H7];rw[L0,Kj.eq_1,j,show decide (i64.wrap (i64.wrap (0+1)+1)<(([x,y].length:Nat):Int))=false from rfl,Bl,Bd];simp only[H7];exact ⟨_,rfl,by simp[this,t]⟩
theorem Adb:∀(t:Ad) (c:Option Ad) (acc:Ae),(He t c acc).2=0->(∀s∈acc,Io s=true)->(∀s,c=some s->Io s=true)->∀s∈(He t c acc).1,Io s=true
 | [],none,acc,_,h2,_=>by simpa [He] using h2
 | [],some cur,acc,_,h2,f=>by
   intro s a;simp only[He,BC,BF] at a;rcases a with a | rfl
   . exact h2 s a
   . exact f s rfl
 | b::r,c,acc,e,h2,f=>by
   have k:∀s∈acc++c.toList,Io s=true:=by
     intro s a;rcases BC.1 a with a | a
     . exact h2 s a
     . exact f s (by simpa using a)
   intro s a;rw[He] at e a;split at e
   . rename_i h;rw[if_pos h] at a;exact k s a
   . rename_i h;rw[if_neg h] at a;split at e
     . rename_i g;rw[if_pos g] at a;exact Adb r none _ e k (λ _ h=>by cases h) s a
     . rename_i g;rw[if_neg g] at a;split at e
       . rename_i i;rw[if_pos i] at a;split at e
         . cases e
         . rename_i l;rw[if_neg l] at a;refine Adb r _ acc e h2 ?_ s a;intro p j;obtain rfl:=Bf j;rw[KC];cases c with
           | none=>simp only[Option.getD_none,List.nil_append];exact ⟨AT,AT,by simpa using i⟩
           | some cur=>
             simp only[BP] at l ⊢;obtain ⟨n,o,m⟩:=KC.1 (f cur rfl);refine ⟨AT,by simp only[Bw,CL];omega,λ x hx=>?_⟩;rcases BC.1 hx with hx | hx
             . exact m x hx
             . rw[BF.1 hx];exact i
       . cases e
theorem Abv:∀(S:Ae) (k:Nat) (acc:AA),(∀x∈acc,∀w∈x.fs,Io w=true)->∀x∈(Fp S k acc).1,∀w∈x.fs,Io w=true
 | [],k,acc,h=>by simpa [Fp] using h
 | t::r,k,acc,h=>by
   intro x hx;rw[Fp] at hx;split at hx
   . rename_i b;refine Abv r (k+1) _ ?_ x hx;intro y a;split at a
     . rcases BC.1 a with a | a
       . exact h y a
       . rw[BF.1 a];exact Adb t none [] b AT (λ _ h=>by cases h)
     . exact h y a
   . cases hx
theorem Z6(s):∀x∈(D1 s).1,∀w∈x.fs,Io w=true:=by
 unfold D1;split
 . intro x hx;cases hx
 . exact Abv _ _ _ AT
theorem Adl(s):(D1 s).1.length<=6001/\∀x∈(D1 s).1,x.fs.length<=6000:=by
 unfold D1;split
 . simp
 . rename_i h;have e:=Ki 10 s;have h2:s.count 10<=s.length:=List.count_le_length;have a:=Ph 6000 (DB 10 s) 1 [] (λ t b=>by have:=Nr 10 s t b;omega) AT;exact ⟨by have:=a.1;simp at this;omega,a.2⟩
theorem Aao:∀(r:Ae),(∀s∈r,Io s=true)->szF r<=13*r.length
 | [],_=>by simp[szF]
 | s::r,h=>by
   have a:=Aao r (λ x hx=>h x (by simp[hx]));have h2:=(KC.1 (h s AT)).2.1;simp only[szF,Br];omega
def ZL:AA->Av->Av×Int×Int
 | [],acc=>if 4000<acc.length then ([],0,14) else (acc,0,0)
 | x::r,acc=>if (evV x.fs).2=0 then ZL r (acc++[(evV x.fs).1]) else ([],x.num,(evV x.fs).2)
def prV(s:Ad):Av×Int×Int:=if (D1 s).2.2=0 then ZL (D1 s).1 [] else ([],(D1 s).2.1,(D1 s).2.2)
def YV(F:Ae->Option (HW×Int))(e:AA):Av×Int->Option ((Av×Int)⊕((Av×Int)⊕(Av×Int×Int)))
 | (b,a)=>cond (decide (a<((e.length:Nat):Int))) (Option.bind (CU e a) λ HB=>Option.bind (F HB.fs) λ (I6,Fo)=>cond (decide (Fo=0)) (cond (decide (b.length+1<10000000)) (some (Sum.inl ((b++[I6]),(i64.wrap (a+1))))) none) (some (Sum.inr (.inr ((([],HB.num,Fo):Av×Int×Int)))))) (some (Sum.inr (.inl (b,a))))
theorem Anc(x1):YG x1=YV Jy x1:=rfl
theorem Asq(F:Ae->Option (HW×Int))(ls)(z:ls.length<=100000)(o:∀x∈ls,F x.fs=some (evV x.fs)):
   DU (Option.bind (C9 (YV F ls) ([],0)) (λ | .inl (So,Zm)=>cond (decide (4000<((So.length:Nat):Int))) (some (([],0,14):Av×Int×Int)) (some (So,0,0)) | .inr (k)=>some k)) (λ r=>r=ZL ls []):=by
 refine tB (P:=λ e=>match e with | .inl s=>ZL ls []=(if 4000<s.1.length then ([],0,14) else (s.1,0,0)) | .inr r=>r=ZL ls []) (tL (λ s=>∃i:Nat,s.2=(i:Int)/\i<=ls.length/\s.1.length=i/\ZL ls []=ZL (ls.drop i) s.1) (λ s=>ls.length - s.2.toNat) ⟨0,rfl,AQ,rfl,AT⟩ ?_) ?_
 . rintro ⟨acc,j⟩ ⟨i,l,h2,m,f⟩;dsimp only at l h2 m f;subst l;rw[YV.eq_1];refine tD (λ Dv=>tI AQ λ x hx u=>?_) λ t=>tS ?_
   . have KL:ls[i]?=some x:=by rw[Be] at hx;exact hx
     have q:ls.drop i=x::ls.drop (i+1):=by
       obtain ⟨v,w⟩:=Bn.1 KL;rw[List.drop_eq_getElem_cons v,w]
     rw[q,ZL] at f;rw[o x u,Bd];generalize evV x.fs=p at*;obtain ⟨e,y⟩:=p;dsimp only at f ⊢;refine tD (λ g=>tG AQ λ _=>tS ⟨⟨i+1,?_,AQ,?_,?_⟩,?_⟩) λ g=>tS ?_
     . dsimp only;rw[C2 AQ AQ];omega
     . dsimp only;rw[List.length_append,List.length_singleton];omega
     . rw[if_pos g] at f;exact f
     . dsimp only;rw[C2 AQ AQ];omega
     . rw[if_neg g] at f;exact f.symm
   . rw[Cv AQ,ZL] at f;exact f
 . rintro (⟨a,b⟩ | r) h
   . dsimp only at h ⊢;rw[h];refine tD (λ n=>tS (by rw[if_pos (AQ)])) λ n=>tS (by rw[if_neg (AQ)])
   . exact tS h
theorem VB{α:Type}{x}{v:α}(h:DU x (λ r=>r=v)):x=some v:=by
 obtain ⟨r,a,h2⟩:=h;rw[a,h2]
theorem Akf(s):∀x∈(D1 s).1,x.fs≠[]/\x.fs.length<=6000/\szF x.fs<=100000/\∀w∈x.fs,Io w=true:=by
 intro x hx;have b:=Ahp s x hx;have h2:=(Adl s).2 x hx;have a:=Z6 s x hx;have e:=Aao x.fs a;exact ⟨b,h2,AQ,a⟩
theorem Rk(s):S7 s=some (prV s):=by
 have b:=Adl s;refine VB ?_;unfold S7 Oc prV;rw[Bd];generalize g:D1 s=p at*;obtain ⟨i,at_,e⟩:=p;dsimp only at b ⊢;refine tD (λ a=>?_) λ a=>tS (by rw[if_neg a]);rw[if_pos a,Anc];refine Asq _ i AQ λ x hx=>?_;obtain ⟨f,h2,j,_⟩:=Akf s x (by rw[g];exact hx);exact VB (ZP _ f AQ AQ)
def pw1:MY->Ae
 | .i n=>[MR n]
 | .s l=>if l=[] then [] else [l]
theorem Auj(l:List MY):(l.flatMap pw1).length<=l.length:=by
 induction l with
 | nil=>simp
 | cons x r a=>
   have:(pw1 x).length<=1:=by
     cases x with
     | i n=>simp[pw1]
     | s l=>simp only[pw1];split<;>simp
   simp only[List.flatMap_cons,Bw,Br];omega
theorem Ms(fs):(Ej fs).length<=szF fs:=by
 cases fs with
 | nil=>simp[Ej,szF]
 | cons x r=>have:=Ab4 (x::r) AT;omega
theorem A8{p:Prop}(h:p:=by simp only[CL];omega):p:=h
theorem Ah1(ps)(k:ps.length<=10)(e:∀x∈ps,-9223372036854775808<=RH x/\RH x<=9223372036854775807)(m:szF (ps.flatMap pw1)<=5000000):DU (T8 ps) (λ r=>r=Ej (ps.flatMap pw1)++[10]):=by
 unfold T8;refine tB (Aw3 (Q:=λ r=>r=(ps.flatMap pw1,(ps.length:Int))) ps pw1 ?_ ?_) ?_
 . intro i x hx;have g:=Fh hx;have h2:=e x (Bt hx);have b:=Auj (ps.take i);rw[BK] at b;rw[Xg.eq_1,show decide ((i:Int)<((ps.length:Nat):Int))=true from Bi AQ,Bm,EZ hx,Bd];have f:i64.wrap ((i:Int)+1)=(i:Int)+1:=C2 AQ AQ;rw[f];cases x with
   | i n=>
     simp only[RH] at h2;simp only[Wn,RH,Bm];unfold Aau;rw[if_pos h2,Bd,show decide (((ps.take i).flatMap pw1).length+1<10000000)=true from Bi AQ,Bm];rfl
   | s l=>
     simp only[Wn,Aeu,Bl];by_cases a:l=[]
     . simp only[a,decide_true,Bm,pw1,B5,List.append_nil]
     . simp only[a,decide_false,Bl,pw1,Cy];rw[show decide (((ps.take i).flatMap pw1).length+1<10000000)=true from Bi AQ,Bm]
 . rw[Xg.eq_1,show decide ((ps.length:Int)<((ps.length:Nat):Int))=false from Bj AQ,Bl];exact tS rfl
 . rintro _ rfl;dsimp only;have b:=Auj ps;have j:=Ms (ps.flatMap pw1);unfold T9;rw[if_pos ⟨rfl,AQ,AQ⟩,Bd];exact tG A8 λ _=>tS rfl
def kf(k:Int):Option Sfm:=Nx.find? (λ f=>decide (f.kind=k))
def ZJ(a b:HW):Bool:=decide (a.kind=b.kind)&&(decide (a.a=b.a)&&(decide (a.b=b.b)&&decide (a.text=b.text)))
theorem Ago{a b}:ZJ a b=true↔a=b:=by
 obtain ⟨e,f,g,i⟩:=a;obtain ⟨j,k,l,m⟩:=b;simp[ZJ]
def QP(e:HW)(T:Ad):Ad×Bool:=if (D1 T).2.2=0/\(D1 T).1.length=1 then (T,decide ((evV ((D1 T).1.getD 0 ln0).fs).2=0)&&ZJ (evV ((D1 T).1.getD 0 ln0).fs).1 e) else ([],false)
def VR(e:HW):Ae:=if e.text=[] then [Acb] else [Acb,e.text]
def Tc(f:Sfm)(e:HW):Ae:=if f.numbers=2 then [f.word,MR e.a,MR e.b] else [f.word,MR e.a]
def wrV(e:HW):Ad×Bool:=if e.kind=1 then QP e (Ej (VR e)++[10]) else match kf e.kind with
 | some f=>QP e (Ej (Tc f e)++[10])
 | none=>([],false)
theorem Axa(g)(e:HW)(y:g.length<=1000):DU (S9 g e.kind e.a e.b e.text) (λ r=>r.2=(e.kind,e.a,e.b,e.text)/\((r.1=-1/\g.find? (λ f=>decide (f.kind=e.kind))=none)∨(0<=r.1/\∃f,g[r.1.toNat]?=some f/\g.find? (λ f=>decide (f.kind=e.kind))=some f))):=by
 unfold S9;refine tB (P:=λ r=>match r with
   | .inl s=>(s.1,s.2.1,s.2.2.1,s.2.2.2.1)=(e.kind,e.a,e.b,e.text)/\g.find? (λ f=>decide (f.kind=e.kind))=none
   | .inr r=>r.2=(e.kind,e.a,e.b,e.text)/\(0<=r.1/\∃f,g[r.1.toNat]?=some f/\g.find? (λ f=>decide (f.kind=e.kind))=some f)) (tL (λ s=>(s.1,s.2.1,s.2.2.1,s.2.2.2.1)=(e.kind,e.a,e.b,e.text)/\∃i:Nat,s.2.2.2.2=(i:Int)/\i<=g.length/\g.find? (λ f=>decide (f.kind=e.kind))=(g.drop i).find? (λ f=>decide (f.kind=e.kind))) (λ s=>g.length - s.2.2.2.2.toNat) ⟨rfl,0,rfl,AQ,AT⟩ ?_) ?_
 . rintro ⟨k,a,b,t,j⟩ ⟨n,i,h2,q,l⟩;dsimp only at n h2 q l;simp only[Cs] at n;obtain ⟨rfl,rfl,rfl,rfl⟩:=n;subst h2;rw[YH.eq_1];refine tD (λ Dv=>tI AQ λ f o _=>?_) λ v=>tS ?_
   . have hx:g[i]?=some f:=by rw[Be] at o;exact o
     have u:g.drop i=f::g.drop (i+1):=by
       obtain ⟨w,x⟩:=Bn.1 hx;rw[List.drop_eq_getElem_cons w,x]
     rw[u,List.find?_cons] at l;unfold H2;rw[Bd];by_cases p:f.kind=e.kind
     . have m:decide (f.kind=e.kind)=true:=Bi p;rw[m] at l;simp only[m,Bm];exact tS ⟨rfl,AS,f,by dsimp only;rw[Be];exact hx,l⟩
     . have m:decide (f.kind=e.kind)=false:=Bj p;rw[m] at l;simp only[m,Bl];refine tS ⟨⟨rfl,i+1,?_,AQ,l⟩,?_⟩
       . dsimp only;rw[C2 AQ AQ];omega
       . dsimp only;rw[C2 AQ AQ];omega
   . refine ⟨rfl,?_⟩;rw[l,Cv AQ];rfl
 . rintro (⟨k,a,b,t,j⟩ | ⟨i,r⟩) h
   . dsimp only at h;simp only[Cs] at h;obtain ⟨⟨rfl,rfl,rfl,rfl⟩,h2⟩:=h;exact tS ⟨rfl,.inl ⟨rfl,h2⟩⟩
   . exact tS ⟨h.1,.inr h.2⟩
theorem Ad6:∀f∈Nx,f.word≠[]/\f.word.length<=10/\Io f.word=true:=AV
theorem Aaz(n)(h:-9223372036854775808<=n/\n<=9223372036854775807):(MR n).length<=21:=by
 unfold MR;split
 . have:=J6 19 (-n).toNat AQ;simp only[Br];omega
 . have:=J6 19 n.toNat AQ;omega
theorem Ava(e)(T)(k a b)(tx)(i:(k,a,b,tx)=(e.kind,e.a,e.b,e.text)):DU (Option.bind (Oc T) λ (Pw,x47,x48)=>cond (decide (x48=0)) (cond (decide (((Pw.length:Nat):Int)=1)) (Option.bind (CU Pw 0) λ UR=>Option.bind (Jy UR.fs) λ (Vv,x57)=>cond (decide (x57=0)) (some (T,(decide (Vv.kind=k)&&(decide (Vv.a=a)&&(decide (Vv.b=b)&&decide (Vv.text=tx)))))) (some (T,false))) (some (([]:Ad),false))) (some (([]:Ad),false))) (λ r=>r=QP e T):=by
 simp only[Cs] at i;obtain ⟨rfl,rfl,rfl,rfl⟩:=i;have f:=Akf T;unfold Oc QP;rw[Bd];generalize D1 T=p at*;obtain ⟨m,at_,s⟩:=p;dsimp only at f ⊢;refine tD (λ g=>tD (λ l=>?_) λ l=>tS (by rw[if_neg (AQ)])) λ g=>tS (by rw[if_neg (AQ)]);obtain ⟨x,rfl⟩:∃x,m=[x]:=List.length_eq_one_iff.1 AQ;obtain ⟨n,t,u,v⟩:=f x AT;rw[if_pos ⟨g,rfl⟩,show CU [x] 0=some x from rfl,Bd,VB (ZP x.fs n AQ AQ),Bd]
 show DU _ (λ r=>r=(T,decide ((evV x.fs).2=0)&&ZJ (evV x.fs).1 e))
 generalize evV x.fs=q;obtain ⟨o,j⟩:=q;dsimp only;refine tD (λ h=>tS (by rw[Bi h];rfl)) λ h=>tS (by rw[Bj h];rfl)
theorem Ak3(e)(y:-9223372036854775808<=e.a/\e.a<=9223372036854775807)(hb:-9223372036854775808<=e.b/\e.b<=9223372036854775807)(I:e.text.length<=2000000):DU (Oa e) (λ r=>r=wrV e):=by
 unfold Oa;have o:[MY.s [111,114,100,101,114],MY.s e.text].flatMap pw1=VR e:=by
   unfold VR;split
   . rename_i h;rw[h];rfl
   . rename_i h;simp[pw1,h,Acb]
 have HK:szF (VR e)<=5000000:=by unfold VR;split<;>simp[szF,Acb]<;>omega
 have w:=Ah1 [MY.s [111,114,100,101,114],MY.s e.text] AT (by intro x hx;simp only[BU,BN,or_false] at hx;rcases hx with rfl | rfl<;>simp[RH]) (by rw[o];exact HK);rw[o] at w;rw[VB w,Bd];unfold wrV;refine tD (λ u=>?_) λ u=>?_
 . rw[if_pos u];exact Ava e _ _ _ _ _ rfl
 . rw[if_neg u,Aca,Bd];refine tB (Axa Nx e AV) ?_;rintro ⟨i,k,a,b,t⟩ ⟨v,q⟩;dsimp only at v q ⊢;have n:kf e.kind=Nx.find? (λ f=>decide (f.kind=e.kind)):=rfl;rcases q with ⟨q,j⟩ | ⟨q,f,j,E⟩
   . rw[n,j];exact tD (λ _=>tS rfl) λ h=>AQ
   . rw[n,E];have B:=Aav f (Bt j);have l:=Ad6 f (Bt j);have H:i.toNat<Nx.length:=(Bn.1 j).1;have H8:0<=i/\i<(Nx.length:Int):=AQ;refine tD (λ h=>AQ) λ _=>?_;rw[Bd];refine tI H8 λ g m _=>?_;rw[j] at m;cases m;rw[Bd];refine tI H8 λ g m _=>?_;rw[j] at m;cases m;have p:=v;simp only[Cs] at p;obtain ⟨_,ea,z,_⟩:=p;subst ea z;have Tk:=Aaz e.a y;have J9:=Aaz e.b hb;rw[Am2 AQ];refine tG AQ λ _=>?_;have Bru:([MY.s f.word,MY.i e.a,MY.i e.b].take (Int.toNat (1+f.numbers))).flatMap pw1=Tc f e:=by
       unfold Tc;rcases B.1 with h | h
       . rw[h,if_neg AQ];simp[pw1,l.1]
       . rw[h,if_pos rfl];simp[pw1,l.1]
     have Bny:szF (Tc f e)<=5000000:=by unfold Tc;split<;>simp only[szF]<;>omega
     have h2:=Ah1 ([MY.s f.word,MY.i e.a,MY.i e.b].take (Int.toNat (1+f.numbers))) (by simp only[BK,Br,Bx];omega) (by
       intro x hx;have hx:=CB hx;simp only[BU,BN,or_false] at hx;rcases hx with rfl | rfl | rfl
       . simp[RH]
       . exact y
       . exact hb) (by rw[Bru];exact Bny)
     rw[Bru] at h2;rw[VB h2,Bd];exact Ava e _ _ _ _ _ v
def Ack(e:HW):Ad:=if e.kind=1 then Ej (VR e) else match kf e.kind with
 | some f=>if 0<=e.a/\e.a<=9999/\0<=e.b/\e.b<=9999 then Ej (Tc f e) else []
 | none=>[]
def okP(e:HW)(s:Ad):Bool:=decide ((prV s).2.2=0)&&(match (prV s).1 with
 | [x]=>ZJ x e
 | _=>false)
theorem Ak1:∀(b:AA) (acc:Av),(ZL b acc).2.2=0->(ZL b acc).1.length=acc.length+b.length
 | [],acc,h=>by
   simp only[ZL] at h ⊢;split at h
   . cases h
   . rename_i a;rw[if_neg a];rfl
 | x::r,acc,h=>by
   simp only[ZL] at h ⊢;split at h
   . rename_i a;rw[if_pos a,Ak1 r _ h];simp only[Bw,Br,Bx];omega
   . rename_i a;exact (a h).elim
theorem Ak4(e)(s):okP e s=(QP e s).2:=by
 unfold okP prV QP;generalize D1 s=p;obtain ⟨k,at_,i⟩:=p;dsimp only;by_cases b:i=0
 . rw[if_pos b]
   match k with
   | []=>simp[ZL]
   | [x]=>
     rw[if_pos ⟨b,rfl⟩];simp only[ZL,Cz]
     show _=(decide ((evV x.fs).2=0)&&ZJ (evV x.fs).1 e)
     generalize evV x.fs=q;obtain ⟨g,f⟩:=q;dsimp only;by_cases a:f=0
     . rw[if_pos a,Bi a];rfl
     . rw[if_neg a,Bj a];rfl
   | x::y::r=>
     rw[if_neg AT];have a:=Ak1 (x::y::r) [];generalize ZL (x::y::r) []=q at*;obtain ⟨l,m,g⟩:=q;dsimp only at a ⊢;by_cases h2:g=0
     . have j:=a h2
       match l with
       | []=>simp
       | [z]=>simp at j
       | z::o::n=>simp
     . rw[Bj h2];rfl
 . rw[if_neg b,if_neg (λ h=>b h.1)];simp[b]
theorem Abu:∀(S:Ae) (k:Nat) (acc:AA),Fp (S++[[]]) k acc=Fp S k acc
 | [],k,acc=>by simp[Fp,He]
 | t::r,k,acc=>by simp only[Ce,Fp,Abu r]
theorem Agl:∀s:Ad,DB 10 (s++[10])=DB 10 s++[[]]
 | []=>rfl
 | b::r=>by
   have a:=Agl r;simp only[Ce,DB,a];split
   . rfl
   . have EG:=P9 10 r;cases h:DB 10 r with
     | nil=>exact (EG h).elim
     | cons x e=>rfl
theorem Axc(s)(h:s.length<6000):D1 (s++[10])=D1 s:=by
 unfold D1;rw[if_neg A4,if_neg AQ,Agl,Abu]
theorem Asx(s)(h:6000<s.length):(D1 s).2.2=1:=by unfold D1;rw[if_pos h]
def Qq(g:HW):Prop:=(g.kind=1/\g.a=0/\g.b=0/\∃e:Ae,e.length<=3/\(∀w∈e,Io w=true)/\g.text=Ej e)∨(∃f∈Nx,g.kind=f.kind/\0<=g.a/\g.a<=9999/\0<=g.b/\g.b<=9999/\(f.numbers=1->g.b=0)/\g.text=[])
theorem Acd(neg)(l)(h:(numOf neg l).2=true):-9999<=(numOf neg l).1/\(numOf neg l).1<=9999:=by
 cases l with
 | nil=>simp[numOf] at h
 | cons b r=>
   simp only[numOf] at h ⊢;by_cases a:4<r.length+1∨((b.toNat:Int)=48/\(neg=true∨1<r.length+1))
   . rw[if_pos a] at h;cases h
   . rw[if_neg a] at h ⊢;by_cases h2:Ni (b::r)=true
     . rw[if_pos h2];have f:∀c∈b::r,48<=c.toNat/\c.toNat<=57:=λ c i=>by
         have:=BB.1 h2 c i;simp[OY] at this;omega
       have e:(b::r).length<=4:=by simp only[Br];omega
       have g:=Bif (b::r) f (b::r).length (Bk _) e;have j:=p10 (b::r).length e;rw[BH] at g;simp only;split<;>omega
     . rw[if_neg h2] at h;cases h
theorem Ak7(x)(h:nmB x=true):0<=(Hw x).1/\(Hw x).1<=9999:=by
 obtain ⟨a,h2⟩:=(Bcr x).1 h;refine ⟨h2,?_⟩;unfold Hw at a ⊢;split
 . rename_i b;rw[if_pos b] at a;exact (Acd _ _ a).2
 . rename_i b;rw[if_neg b] at a;exact (Acd _ _ a).2
theorem Bnp(w)(h:¬(kw w).1=0):∃f∈Nx,kw w=(f.kind,f.numbers):=by
 unfold kw at h ⊢;cases a:Nx.find? (λ f=>decide (w=f.word)) with
 | none=>rw[a] at h;exact (h rfl).elim
 | some f=>exact ⟨f,List.mem_of_find?_eq_some a,rfl⟩
theorem Aog(fs)(j:∀w∈fs,Io w=true)(h:(evV fs).2=0):Qq (evV fs).1:=by
 cases fs with
 | nil=>simp[evV] at h
 | cons w rest=>
   rw[Ts] at h ⊢;split at h
   . rename_i b;rw[if_pos b];split at h
     . simp at h
     . rename_i i;rw[if_neg i];exact .inl ⟨rfl,rfl,rfl,rest,AQ,λ x hx=>j x (by simp[hx]),rfl⟩
   . rename_i b;rw[if_neg b];unfold evN at h ⊢;split at h
     . simp at h
     . rename_i Lo;rw[if_neg Lo];obtain ⟨f,g,a⟩:=Bnp w Lo;rw[a] at h ⊢;dsimp only at h ⊢;split at h
       . rename_i hlen;rw[if_pos hlen]
         match rest,hlen,h with
         | [x],hlen,h=>
           dsimp only at h ⊢;split at h
           . rename_i hx;rw[if_pos hx];have:=Ak7 x hx;exact .inr ⟨f,g,rfl,this.1,this.2,AT,AT,λ _=>rfl,rfl⟩
           . simp at h
         | [x,y],hlen,h=>
           dsimp only at h ⊢;split at h
           . rename_i hx;rw[if_pos hx];rw[Bz] at hx;have e:=Ak7 x hx.1;have h2:=Ak7 y hx.2;refine .inr ⟨f,g,rfl,e.1,e.2,h2.1,h2.2,λ k=>?_,rfl⟩;simp only[Br,Bx] at hlen;omega
           . simp at h
         | [],hlen,h=>simp at h
         | _::_::_::_,hlen,h=>simp at h
       . simp at h
theorem QO(e)(s)(h:(QP e s).2=true):Qq e/\s.length<=6000/\(QP e s).1=s:=by
 have b:=Akf s;have Bzh:=Asx s;unfold QP at h ⊢;split at h
 . rename_i f;rw[if_pos f];refine ⟨?_,?_,rfl⟩
   . generalize D1 s=p at*;obtain ⟨g,at_,i⟩:=p;dsimp only at*;obtain ⟨x,rfl⟩:∃x,g=[x]:=List.length_eq_one_iff.1 f.2;have a:(decide ((evV x.fs).2=0)&&ZJ (evV x.fs).1 e)=true:=h;simp only[Bz,BI] at a;have h2:=Aog x.fs (b x AT).2.2.2 a.1;rw[Ago.1 a.2] at h2;exact h2
   . rcases Nat.lt_or_ge 6000 s.length with a | a
     . have:=Bzh a;omega
     . exact a
 . cases h
theorem Bh0(e)(s)(h:s.length<6000):(QP e (s++[10])).2=(QP e s).2:=by
 unfold QP;rw[Axc s h];split<;>rfl
theorem Avb(e):(QP e []).2=false:=rfl
theorem Boo:∀f∈Nx,kf f.kind=some f:=AV
theorem Am4(ws)(h:∀w∈ws,Io w=true)(b:ws.length<=3):(Ej ws).length<=39:=by
 have a:=Ms ws;have h2:=Aao ws h;omega
theorem Acp(e):(wrV e).2=okP e (Ack e)/\((wrV e).2=true->(wrV e).1=Ack e++[10]/\Qq e):=by
 rw[Ak4];unfold wrV Ack;by_cases m:e.kind=1
 . rw[if_pos m,if_pos m];rcases Nat.lt_or_ge (Ej (VR e)).length 6000 with h | h
   . refine ⟨Bh0 e _ h,λ j=>?_⟩;obtain ⟨i,n,k⟩:=QO e _ j;exact ⟨k,i⟩
   . have j:(QP e (Ej (VR e)++[10])).2=false:=by
       cases l:(QP e (Ej (VR e)++[10])).2
       . rfl
       . have:=(QO e _ l).2.1;simp only[Bw,CL] at this;omega
     have h2:(QP e (Ej (VR e))).2=false:=by
       cases l:(QP e (Ej (VR e))).2
       . rfl
       . exfalso;rcases (QO e _ l).1 with ⟨_,_,_,u,i,n,k⟩ | ⟨f,o,i,_⟩
         . have r:=Am4 u n i;rw[<-k] at r;have s:=Ms (VR e);have w:szF (VR e)<=60:=by unfold VR;split<;>simp[szF,Acb]<;>omega
           omega
         . have:=Aav f o;omega
     rw[j,h2];exact ⟨rfl,λ h=>by cases h⟩
 . rw[if_neg m,if_neg m];cases o:kf e.kind with
   | none=>exact ⟨(Avb e).symm,λ h=>by cases h⟩
   | some f=>
     dsimp only;have p:f∈Nx:=List.mem_of_find?_eq_some o;by_cases q:0<=e.a/\e.a<=9999/\0<=e.b/\e.b<=9999
     . rw[if_pos q];have t:=Ad6 f p;have Tk:=Aaz e.a AQ;have J9:=Aaz e.b AQ;have h:(Ej (Tc f e)).length<6000:=by
         have j:=Ms (Tc f e);have h2:szF (Tc f e)<=100:=by unfold Tc;split<;>simp only[szF]<;>omega
         omega
       refine ⟨Bh0 e _ h,λ j=>?_⟩;obtain ⟨i,n,k⟩:=QO e _ j;exact ⟨k,i⟩
     . rw[if_neg q];have j:(QP e (Ej (Tc f e)++[10])).2=false:=by
         cases l:(QP e (Ej (Tc f e)++[10])).2
         . rfl
         . exfalso;rcases (QO e _ l).1 with ⟨i,_⟩ | ⟨g,v,i,n,k,r,s,_⟩
           . exact m i
           . exact q ⟨n,k,r,s⟩
       rw[j,Avb];exact ⟨rfl,λ h=>by cases h⟩
theorem Bqb(e)(h:(wrV e).2=true):(wrV e).1≠[]/\(wrV e).1.length<=10000:=by
 have a:=(Acp e).2 h;rw[a.1];refine ⟨AT,?_⟩;have h2:=(Acp e).1;rw[h,Ak4] at h2;have b:=(QO e _ h2.symm).2.1;simp only[Bw,CL];omega
theorem Bon:∀f∈Nx,kw f.word=(f.kind,f.numbers):=AV
theorem Abx(l)(g:l.length<=1000000):Aaq l l=some true:=by
 refine VB ?_;unfold Aaq;refine tD (λ _=>?_) λ h=>AQ;refine tB (P:=λ r:Int⊕Bool=>match r with
   | .inl _=>True
   | .inr b=>b=true) (Nd (Q:=λ r:Int⊕Bool=>match r with
   | .inl _=>True
   | .inr b=>b=true) l (λ _=>True) trivial ?_ ?_) ?_
 . intro i x hx j _ f;have e:i64.wrap ((i:Int)+1)=(i:Int)+1:=C2 AQ AQ;rw[Xa.eq_1];refine tD (λ _=>?_) λ h=>AQ;rw[EZ hx,Bd,Bd];refine tC (λ _=>?_) (λ h=>?_);all_goals first
     | exact tS ⟨e,trivial⟩
     | (exfalso;simp at h)
     | (refine tS ?_;simp)
 . intro _;rw[Xa.eq_1];exact tD (λ h=>AQ) λ _=>tS trivial
 . rintro (a | b) h
   . exact tS rfl
   . exact tS h
theorem Anp:Xb=some true:=by
 unfold Xb;rw[Rk,Bd];have h:prV [111,114,100,101,114,32,116,97,115,107,32,97,32,98,10,100,111,119,110,32,48,32,49,32,35,32,105,116,32,97,114,114,105,118,101,115,10,111,114,100,101,114,10]=([⟨1,0,0,[116,97,115,107,32,97,32,98]⟩,⟨2,0,1,[]⟩,⟨1,0,0,[]⟩],0,0):=AY;rw[h];rfl
theorem Ky(l)(i m)(a:0<=i/\i<1000000000)(b:m<1000000):DU (EE l i m) (λ r=>0<=r.1/\(1<=m->r.1<m)/\r.2.1=l/\r.2.2=i+1):=Jo l i m a b
theorem Aj6{n}(h:validN n):smallN n:=by
 obtain ⟨⟨g,b,l,Ek⟩,j,_,a,_⟩:=h;refine ⟨AQ,⟨AQ,λ r a=>?_⟩,AQ,AQ⟩;obtain ⟨i,k,e⟩:=MF [] a;obtain ⟨_,f,_⟩:=Ek i AQ;rw[e] at f;omega
theorem Avv{n}(h:validN n):u_r03_Valid_v n=some true:=by
 unfold u_r03_Valid_v;rw[if_pos (Aj6 h)];simp[h]
theorem NW.Bj0{n}(h:validN n):∃C B S:Nat,NW C B S n:=by
 have f:=Avv h;obtain ⟨hb,a,_,b,_,e,Bjk,_⟩:=h;exact ⟨_,_,_,NW.of hb a b e Bjk f⟩
theorem Bht(c)(a:97<=c.toNat/\c.toNat<=122)(i)(b:i<10):W0 (c::Ik i):=by
 rw[Hi i b];refine ⟨AT,AT,λ x hx=>?_⟩;simp only[BU,BN,or_false] at hx;rcases hx with rfl | rfl
 . exact .inl a
 . right;rw[UInt8.toNat_ofNat'];omega
theorem NMS.of{n}(h:All n):NMS n:=by
 obtain ⟨k,f,l,m,g,j,q,p,o,cf⟩:=h;refine ⟨λ x hx=>?_,λ x hx=>?_,g.1⟩
 . obtain ⟨i,e,b⟩:=MF TT hx;have a:=(f i e).1;rw[b] at a;rw[a];exact Bht 98 AV i AQ
 . obtain ⟨i,e,b⟩:=MF EY hx;have a:=(j i e).1;rw[b] at a;rw[a];exact Bht 115 AV i AQ
theorem Au0{n}(h:All n)(m)(k:Nat)(i:k<=100)(f):∃r,Qf m 0 n (k:Int) f=some r/\(∀e∈r.1,Ll e)/\r.1.length<=k:=by
 obtain ⟨C,B,S,b⟩:=NW.Bj0 h.valid;obtain ⟨r,a,h2,g,_⟩:=Au1 b (NMS.of h) m 0 AQ (k:Int) AQ f;exact ⟨r,a,h2,AQ⟩
theorem Ll.small{e}(h:Ll e):(-9223372036854775808<=e.a/\e.a<=9223372036854775807)/\(-9223372036854775808<=e.b/\e.b<=9223372036854775807)/\e.text.length<=2000000:=by
 rcases h with ⟨_,h2,j,p,k,m,g,f⟩ | ⟨_,_,j,k,m,g,f,_⟩
 . refine ⟨AQ,AQ,?_⟩;rw[f];have:∀l:Ae,(∀w∈l,W0 w)->(jn l).length<=13*l.length:=by
     intro l
     induction l with
     | nil=>intro _;simp[jn]
     | cons w r o=>
       intro i;have q:=(i w AT).2.1;have n:=o (λ x hx=>i x (by simp[hx]));cases r with
       | nil=>simp only[jn,Br,Bx];omega
       | cons v r=>simp only[jn,Bw,Br] at n ⊢;omega
   have:=this p g;omega
 . exact ⟨AQ,AQ,by rw[f];simp⟩
def smE(es:Av):Prop:=es.length<=2000000/\∀e∈es,(-9223372036854775808<=e.a/\e.a<=9223372036854775807)/\(-9223372036854775808<=e.b/\e.b<=9223372036854775807)/\e.text.length<=2000000
theorem Ahg(es)(h:smE es):C3 prog 11 [sD (GI es)] [(1000000,(.Ev 3 Kx))] λ h r=>h=[(1000000,(.Ev 3 Kx))]/\r= .Em [.p (.str (Ada wrV es).1),iD (Ada wrV es).2]:=
 Ary wrV es (λ e a=>VB (Ak3 e (h.2 e a).1 (h.2 e a).2.1 (h.2 e a).2.2)) (λ e a b=>Bqb e b) (by have:=h.1;omega)
structure Bpg(e:HW)(fs:Ae):Prop where
 ne:fs≠[]
 pr:∀w∈fs,Io w=true
 l4:fs.length<=4
 ln:Ack e=Ej fs
 ev:evV fs=(e,0)
theorem Bju:∀f∈Nx,f.word≠Acb:=AV
theorem Aum(n:Int)(h:0<=n/\n<=9999):nmB (MR n)=true/\(Hw (MR n)).1=n:=by
 have a:=Awi n AQ AQ;rw[if_pos AQ] at a;unfold nmB;rw[a];simp;omega
theorem Qq.lin{e:HW}(h:Qq e):∃H,Bpg e H:=by
 obtain ⟨k,a,b,t⟩:=e;rcases h with ⟨m,h2,i,E,n,j,o⟩ | ⟨f,p,m,h2,i,n,j,o,z⟩
 . dsimp only at m h2 i o;subst m h2 i o;refine ⟨Acb::E,AT,λ w l=>?_,AW,?_,?_⟩
   . rcases BU.1 l with rfl | l
     . decide
     . exact j w l
   . unfold Ack VR;rw[if_pos rfl];dsimp only;cases E with
     | nil=>rfl
     | cons x r=>
       have hx:=(KC.1 (j x AT)).1;have EG:Ej (x::r)≠[]:=by
         cases x with
         | nil=>exact (hx rfl).elim
         | cons c x=>simp[Ej]
       rw[if_neg EG];simp[Ej]
   . rw[Ts,if_pos rfl,if_neg AQ]
 . dsimp only at m h2 i n j o z;subst m z;have l:=Ad6 f p;have I:=Aav f p;have v:=Boo f p;have q:=Bon f p;have B:=Bju f p;have Ti:=Aio a h2 i;have y:=Aio b n j;have ZV:=Aum a ⟨h2,i⟩;have u:=Aum b ⟨n,j⟩;refine ⟨Tc f ⟨f.kind,a,b,[]⟩,?_,?_,?_,?_,?_⟩
   . unfold Tc;split<;>simp
   . intro w g;unfold Tc at g;split at g
     . simp only[BU,BN,or_false] at g;rcases g with rfl | rfl | rfl
       . exact l.2.2
       . exact Ti
       . exact y
     . simp only[BU,BN,or_false] at g;rcases g with rfl | rfl
       . exact l.2.2
       . exact Ti
   . unfold Tc;split<;>simp
   . unfold Ack;rw[if_neg (show ¬f.kind=1 by omega)];dsimp only;rw[v];dsimp only;rw[if_pos ⟨h2,i,n,j⟩]
   . unfold Tc;rcases I.1 with s | s
     . have hb:=o s;subst hb;rw[if_neg AQ,Ts,if_neg B,q];unfold evN
       (try dsimp only)
       rw[if_neg AQ,if_pos (by simp[s])]
       (try dsimp only)
       rw[if_pos ZV.1,ZV.2]
     . rw[if_pos s,Ts,if_neg B,q];unfold evN
       (try dsimp only)
       rw[if_neg AQ,if_pos (by simp[s])]
       (try dsimp only)
       rw[if_pos (by rw[ZV.1,u.1];rfl),ZV.2,u.2]
theorem Bpg.wr{e:HW}{a:Ae}(h:Bpg e a):(wrV e).2=true/\(wrV e).1=Ej a++[10]/\(Ej a).length<=52:=by
 have i:=Ms a;have h2:=Aao a h.pr;have j:=h.l4;have g:(Ej a).length<=52:=AQ;have b:=Acp e;have f:okP e (Ack e)=true:=by
   rw[Ak4,h.ln];unfold QP;rw[Asw a h.ne h.pr AQ,if_pos ⟨rfl,rfl⟩]
   show (decide ((evV a).2=0)&&ZJ (evV a).1 e)=true
   rw[h.ev];simp[Ago]
 rw[f] at b;exact ⟨b.1,by rw[(b.2 b.1).1,h.ln],g⟩
def nlL:Nat->List (List (List UInt8))->AA
 | _,[]=>[]
 | k,f::r=>⟨(k:Int),f⟩::nlL (k+1) r
theorem Aqj:∀es:Av,(∀e∈es,Qq e)->∃a:List (List (List UInt8)),(∀(k:Nat) (acc:Av),acc.length+es.length<=4000->ZL (nlL k a) acc=(acc++es,0,0))/\(∀k:Nat,ZA k (nlL k a)=Se wrV es)/\(∀k:Nat,Ad9 (k:Int) (nlL (k+1) a)=true)/\(Se wrV es).length<=53*es.length/\es.all (λ e=>(wrV e).2)=true
 | [],_=>⟨[],λ k acc h=>by
     have j:¬4000<acc.length:=by simp only[Bx] at h;omega
     simp only[nlL,ZL,if_neg j,List.append_nil],λ k=>rfl,λ k=>rfl,by simp[Se],rfl⟩
 | e::r,h=>by
   obtain ⟨a,l,h2,m,q,n⟩:=Aqj r (λ x hx=>h x (by simp[hx]));obtain ⟨i,b⟩:=(h e AT).lin;obtain ⟨p,f,s⟩:=b.wr;refine ⟨i::a,λ k acc o=>?_,λ k=>?_,λ k=>?_,?_,?_⟩
   . simp only[Br] at o;simp only[nlL,ZL,b.ev,B5];rw[l (k+1) (acc++[e]) A4];simp
   . simp only[nlL,ZA,Be,Nat.sub_self,List.replicate_zero,Cz,h2 (k+1)];simp only[Se,List.flatMap_cons,f,Cr,List.singleton_append]
   . rw[nlL];refine Ad8.2 ⟨AS,b.ne,b.pr,?_⟩;exact m (k+1)
   . have g:Se wrV (e::r)=(wrV e).1++Se wrV r:=rfl;rw[g,f];simp only[Bw,Br,Bx];omega
   . simp only[List.all_cons,p,n,Bool.and_self]
theorem Avd(es:Av)(h:∀e∈es,Qq e)(l:es.length<=100):Ada wrV es=(Se wrV es,0)/\prV (Se wrV es)=(es,0,0):=by
 obtain ⟨a,g,h2,i,k,j⟩:=Aqj es h;refine ⟨?_,?_⟩
 . unfold Ada;rw[if_neg AQ,if_pos j,if_neg AQ]
 . have b:=h2 1;have f:=Aoe (nlL 1 a) (i 0) (by rw[b];omega);rw[b] at f;unfold prV;rw[f];dsimp only;rw[if_pos rfl,g 1 [] (by simp only[Bx];omega)];rfl
theorem Bkl{w:Ad}(h:W0 w):Io w=true:=by
 refine KC.2 ⟨h.1,h.2.1,λ b hb=>?_⟩;have:=h.2.2 b hb;unfold QR;simp only[Bz,BI,Bool.not_eq_true',decide_eq_false_iff_not];omega
theorem Anr:∀a:Ae,jn a=Ej a
 | []=>rfl
 | [w]=>by simp[jn,Ej]
 | w::v::r=>by
   have:=Anr (v::r);simp only[jn,this,Ej,List.flatMap_cons,Ce]
theorem Bom(k:Int)(h:2<=k/\k<=11):∃f∈Nx,k=f.kind/\(f.numbers=1->8<=k):=by
 have a:k=2∨k=3∨k=4∨k=5∨k=6∨k=7∨k=8∨k=9∨k=10∨k=11:=AQ;rcases a with rfl | rfl | rfl | rfl | rfl | rfl | rfl | rfl | rfl | rfl<;>simp[Nx]
theorem Ll.Be7{e:HW}(h:Ll e):Qq e:=by
 rcases h with ⟨a,h2,b,r,k,g,j,i⟩ | ⟨a,h2,b,k,g,j,i,l⟩
 . exact .inl ⟨a,h2,b,r,g,λ w q=>Bkl (j w q),by rw[i,Anr]⟩
 . obtain ⟨f,m,o,p⟩:=Bom e.kind ⟨a,h2⟩;exact .inr ⟨f,m,o,b,AQ,g,AQ,λ n=>l (p n),i⟩
theorem An7:∀(f:AA) (acc:Av),(∀x∈f,∀w∈x.fs,Io w=true)->(∀e∈acc,Qq e)->∀e∈(ZL f acc).1,Qq e
 | [],acc,_,h=>by
   simp only[ZL];split
   . intro e a;cases a
   . exact h
 | x::r,acc,b,h=>by
   simp only[ZL];split
   . rename_i g;refine An7 r _ (λ y i=>b y (by simp[i])) ?_;intro e a;rcases BC.1 a with a | a
     . exact h e a
     . rw[BF.1 a];exact Aog x.fs (b x AT) g
   . intro e a;cases a
theorem Bcp(s:Ad):∀e∈(prV s).1,Qq e:=by
 unfold prV;split
 . exact An7 _ _ (Z6 s) AT
 . intro e a;cases a
theorem Awc(l:Aa):DU (Aap l) (λ r=>r.count 10<=8):=by
 unfold Aap;refine tB (Ky l 0 8 AQ AQ) ?_;rintro ⟨k,l2,j⟩ ⟨h1,h2,K,N⟩;dsimp only at h1 h2 K N ⊢;have h5:=h2 AQ;subst K N;refine tB (P:=λ r=>r.2.2.1.count 10<=8) (tL (λ s=>s.1=l2/\1<=s.2.1/\s.2.1<=1000 - 100*s.2.2.2/\0<=s.2.2.2/\s.2.2.2<=8/\(s.2.2.1.length:Int)<=10000 - 1000*s.2.2.2/\(s.2.2.1.count 10:Int)<=8 - s.2.2.2) (λ s=>s.2.2.2.toNat) ⟨rfl,AS,AS,AS,AS,by dsimp only[List.length_nil];omega,by dsimp only[List.count_nil];omega⟩ ?_) (λ ⟨a,b,c,d⟩ hh=>tS hh);rintro ⟨l3,t,s,n⟩ ⟨R,k2,k3,k4,k5,k6,k7⟩;dsimp only at R k2 k3 k4 k5 k6 k7;subst R;rw[Abw.eq_1];refine tD (λ hn=>?_) λ _=>tS AS;refine tB (Ky _ _ _ AQ AQ) ?_;rintro ⟨w,l4,t2⟩ ⟨p1,T,rfl,rfl⟩;dsimp only at p1 T ⊢;have p3:=T AQ;refine tB (Ky _ _ _ AQ AQ) ?_;rintro ⟨w2,E,t3⟩ ⟨p4,p5,rfl,rfl⟩;dsimp only at p4 p5 ⊢;have inner:∀(x:Int) (e:Int) (i:Ad),0<=x/\x<12->t<=e->e<=t+10->(i.length:Int)<=s.length+20->DU (C9 (Qd x) (E,e,0,i)) (λ r=>r.1=E/\e<=r.2.1/\r.2.1<=e+40/\(r.2.2.2.length:Int)<=i.length+40/\r.2.2.2.count 10=i.count 10):=by
   intro x e i hx a1 a2 a0;refine tL (λ q=>q.1=E/\0<=q.2.2.1/\q.2.2.1<=4/\e<=q.2.1/\q.2.1<=e+8*q.2.2.1/\(q.2.2.2.length:Int)<=i.length+10*q.2.2.1/\q.2.2.2.count 10=i.count 10) (λ q=>5 - q.2.2.1.toNat) ⟨rfl,AS,AS,AS,AS,AS,rfl⟩ ?_;rintro ⟨l6,t6,Q,s6⟩ ⟨V,q2,q3,q4,q5,q6,W⟩;dsimp only at V q2 q3 q4 q5 q6 W;subst V;rw[Qd.eq_1];refine tI A6 λ c _ hc=>?_;have Xx:0<=c/\c<=2:=by
     simp only[BU,BN,or_false] at hc;omega
   refine tB (Ky _ _ _ AQ AQ) ?_;rintro ⟨y,S,Y⟩ ⟨B,m,rfl,rfl⟩;dsimp only at B m ⊢;have r3:=m AQ;have r4:0<=Int.tdiv y 8/\Int.tdiv y 8<=1:=by
     rw[Int.tdiv_eq_ediv_of_nonneg B];omega
   rw[C2 (n:=Int.tdiv y 8) AQ AQ,C2 (n:=c+Int.tdiv y 8) AQ AQ];refine tD (λ Dv=>?_) λ _=>tS ⟨rfl,AS,AS,AS,W⟩;refine tB (Ky _ _ _ AQ AQ) ?_;rintro ⟨j1,l8,t8⟩ ⟨u1,Z,rfl,rfl⟩;dsimp only at u1 Z ⊢;have u3:=Z AQ;refine tB (Ky _ _ _ AQ AQ) ?_;rintro ⟨z,l9,t9⟩ ⟨v1,v2,rfl,rfl⟩;dsimp only at v1 v2 ⊢;have U:∀x∈([[48],[49],[50],[49,55],[97],[45,49],[102,108,101,101,116]]:Ae),x.length<=5/\x.count 10=0:=AV;refine tD (λ _=>?_) λ _=>?_
   . refine tB (Ky _ _ _ AQ AQ) ?_;rintro ⟨j2,a3,a4⟩ ⟨v3,v4,rfl,rfl⟩;dsimp only at v3 v4 ⊢;have v5:=v4 AQ;refine tI A6 λ p _ f=>?_;have g:=U p f;refine tG A8 λ _=>tG A4 λ _=>tS ⟨⟨rfl,?_,?_,?_,?_,?_,?_⟩,?_⟩;all_goals (dsimp only;(try simp only[List.length_append,List.length_singleton,List.count_append,show List.count (10:UInt8) [32]=0 from rfl,show List.count (10:UInt8) [10]=1 from rfl]);(try rw[C2 (n:=Q+1) AQ AQ]);omega)
   . refine tI A6 λ p _ f=>?_;have g:=U p f;refine tG A8 λ _=>tG A4 λ _=>tS ⟨⟨rfl,?_,?_,?_,?_,?_,?_⟩,?_⟩;all_goals (dsimp only;(try simp only[List.length_append,List.length_singleton,List.count_append,show List.count (10:UInt8) [32]=0 from rfl,show List.count (10:UInt8) [10]=1 from rfl]);(try rw[C2 (n:=Q+1) AQ AQ]);omega)
 have wl:∀x∈([[111,114,100,101,114],[100,111,119,110],[117,112],[108,111,115,101,45,100,111,119,110],[108,111,115,101,45,117,112],[116,119,105,99,101,45,100,111,119,110],[116,119,105,99,101,45,117,112],[116,105,109,101,114],[100,114,105,118,101],[115,101,114,118,101],[102,97,117,108,116],[104,97,108,116]]:Ae),x.length<=10/\x.count 10=0:=AV;refine tD (λ _=>?_) λ _=>?_
 . refine tB (Ky _ _ _ AQ AQ) ?_;rintro ⟨w3,l6,t6⟩ ⟨B,m,rfl,rfl⟩;dsimp only at B m ⊢;have r3:=m AQ;refine tI A6 λ p _ f=>?_;have g:=wl p f;refine tG AQ λ _=>tB (inner w3 _ _ AQ AQ AQ (by simp only[Bw];omega)) ?_;rintro ⟨S,Y,i7,s7⟩ ⟨o,H,I,u,v⟩;dsimp only at o H I u v ⊢;simp only[Bw,List.count_append] at u v;refine tG A8 λ _=>tS ⟨⟨o,?_,?_,?_,?_,?_,?_⟩,?_⟩;all_goals (dsimp only;(try simp only[List.length_append,List.length_singleton,List.count_append,show List.count (10:UInt8) [32]=0 from rfl,show List.count (10:UInt8) [10]=1 from rfl]);(try rw[C2 (n:=n - 1) AQ AQ]);omega)
 . refine tI A6 λ p _ f=>?_;have g:=wl p f;refine tG AQ λ _=>tB (inner w _ _ AQ AQ AQ (by simp only[Bw];omega)) ?_;rintro ⟨S,Y,i7,s7⟩ ⟨o,H,I,u,v⟩;dsimp only at o H I u v ⊢;simp only[Bw,List.count_append] at u v;refine tG A8 λ _=>tS ⟨⟨o,?_,?_,?_,?_,?_,?_⟩,?_⟩;all_goals (dsimp only;(try simp only[List.length_append,List.length_singleton,List.count_append,show List.count (10:UInt8) [32]=0 from rfl,show List.count (10:UInt8) [10]=1 from rfl]);(try rw[C2 (n:=n - 1) AQ AQ]);omega)
theorem Biv(s:Ad)(h:(prV s).2.2=0):(prV s).1.length<=s.count 10+1:=by
 have g:(D1 s).1.length<=s.count 10+1:=by
   unfold D1;split
   . simp
   . rename_i f;have a:=Ki 10 s;have b:=Ph 6000 (DB 10 s) 1 [] (λ t e=>by have:=Nr 10 s t e;omega) AT;have:=b.1;simp only[Bx] at this;omega
 unfold prV at h ⊢;split at h
 . rename_i a;rw[if_pos a,Ak1 _ _ h];simp only[Bx];omega
 . rename_i a;exact (a h).elim
theorem Biw(s:Ad)(h:¬(prV s).2.2=0):(prV s).1=[]:=by
 have key:∀(a:AA) (acc:Av),¬(ZL a acc).2.2=0->(ZL a acc).1=[]:=by
   intro a
   induction a with
   | nil=>intro acc h;simp only[ZL] at h ⊢;split<;>simp_all
   | cons x r e=>intro acc h;simp only[ZL] at h ⊢;split<;>simp_all
 unfold prV at h ⊢;split at h
 . rename_i b;rw[if_pos b];exact key _ _ h
 . rename_i b;rw[if_neg b]
theorem Qq.small{e:HW}(h:Qq e):(-9223372036854775808<=e.a/\e.a<=9223372036854775807)/\(-9223372036854775808<=e.b/\e.b<=9223372036854775807)/\e.text.length<=2000000:=by
 rcases h with ⟨_,h2,k,m,g,i,j⟩ | ⟨f,o,n,h2,k,g,i,j,l⟩
 . have:=Am4 m i g;exact ⟨AQ,AQ,by rw[j];omega⟩
 . exact ⟨AQ,AQ,by rw[l];simp⟩
theorem A9{p:Prop}(h:p:=by simp[E8,D.ids,JF]):p:=h
theorem Ajr(l m:Aa):
   C3 prog 4 [sD (CS l),sD (CS m)] [(1000000,(.Ev 3 Kx))] λ h r=>h=[(1000000,(.Ev 3 Kx))]/\r=bD true:=by
 obtain ⟨f,v,R⟩:=Awc m;refine Dx func4 rfl Av0 (by simp[Tryz.f4]) ?_;simp only[go_sem];refine Gn ((Arv Anp).Ev (id:=1000000) AV rfl A9 (λ b r a=>by rw[a.1];rfl)) ?_;rintro g r ⟨_,⟨rfl,rfl⟩,rfl⟩;simp only[go_sem];refine Gn ((Bno l 0 5 AQ AQ AQ).Ev (id:=1000001) AV rfl (by simp[E8,D.ids,JF,Fu,AO.ids,get]) (λ b r a=>by obtain ⟨_,_,_,_,rfl,rfl⟩:=a;rfl)) ?_;rintro g r ⟨b,⟨B,n,z,Q,rfl,rfl⟩,rfl⟩;obtain ⟨U,t,Ru,hlen⟩:=Au0 Q m 40 AQ true;simp only[go_sem,Fu,Nt.cs];refine Gn ((Ank t).Ev (id:=1000001) AV rfl A1 (λ b r a=>by rw[a.1];rfl)) ?_;rintro g r ⟨b,⟨rfl,rfl⟩,rfl⟩;generalize U.1=es at*;have u:smE es:=⟨AQ,λ e k=>Ll.small (Ru e k)⟩;obtain ⟨E,H⟩:=Avd es (λ e k=>(Ru e k).Be7) AQ;have x:=Ahg es u;rw[E] at x;generalize Se wrV es=T at*;have y:=Rj (Rk T);rw[H] at y;have N:=Agp (Abx es AQ);have q:=Rj (Rk f);simp only[go_sem];refine Cq ((x)) ?_;simp only[go_sem];refine Gn ((y).Ev (id:=1000000) AV rfl A9 (λ b r a=>by rw[a.1];rfl)) ?_;rintro g r ⟨_,⟨rfl,rfl⟩,rfl⟩;simp only[go_sem];refine Gn ((N).Ev (id:=1000000) AV rfl A9 (λ b r a=>by rw[a.1];rfl)) ?_;rintro g r ⟨_,⟨rfl,rfl⟩,rfl⟩;simp only[go_sem];refine Gn ((Awb v).Ev (id:=1000000) AV rfl A9 (λ b r a=>by rw[a.1];rfl)) ?_;rintro g r ⟨_,⟨rfl,rfl⟩,rfl⟩;simp only[go_sem];refine Gn ((q).Ev (id:=1000000) AV rfl A9 (λ b r a=>by rw[a.1];rfl)) ?_;rintro g r ⟨_,⟨rfl,rfl⟩,rfl⟩;by_cases p:(prV f).2.2=0
 . have S:=Biv f p;have o:=Bcp f;rw[p];generalize (prV f).1=xs at*;generalize (prV f).2.1=at3 at*;obtain ⟨I,K⟩:=Avd xs o AQ;have i:=Ahg xs ⟨AQ,λ e k=>(o e k).small⟩;rw[I] at i;generalize Se wrV xs=T2 at*;have j:=Rj (Rk T2);rw[K] at j;have s:=Agp (Abx xs AQ);simp only[go_sem];refine Cq ((i)) ?_;simp only[go_sem];refine Gn ((j).Ev (id:=1000000) AV rfl A9 (λ b r a=>by rw[a.1];rfl)) ?_;rintro g r ⟨_,⟨rfl,rfl⟩,rfl⟩;simp only[go_sem];refine Gn ((s).Ev (id:=1000000) AV rfl A9 (λ b r a=>by rw[a.1];rfl)) ?_;rintro g r ⟨_,⟨rfl,rfl⟩,rfl⟩;simp only[go_sem];all_goals (try refine DF ?_)
   all_goals (try simp only[go_sem])
   all_goals (try exact ⟨rfl,rfl⟩)
 . have w:=Biw f p;rw[w];generalize (prV f).2.1=at3 at*;generalize (prV f).2.2=er at*;simp only[go_sem,p,Gj,Bx];all_goals (try refine DF ?_)
   all_goals (try simp only[go_sem])
   all_goals (try exact ⟨rfl,rfl⟩)
end Go.Am
end
