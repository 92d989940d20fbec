/- Texts of this proof, what it rests on, merged: part J. -/
import Derived.Test.YtlfbkkljgighkaaGreatDoorSpI
noncomputable section
namespace Go.Am
open Go
open Go Go.Proofs
open Go.IntKind (i64)
open Tryz
set_option maxRecDepth 100000
set_option linter.unusedVariables false
set_option linter.unusedSimpArgs false
set_option maxHeartbeats 2000000
theorem T3{C B S U T}{d}(h:DK C B S U T d)(a)(p:a<(S:Int)):DT (Yo d a) (λ r=>r.1<0∨(0<=r.1/\r.1<(U:Int)/\∃u,d.CO[r.1.toNat]?=some u/\u.state=1/\u.Dx=0)):=by
 have OY:=h.ul;have:=h.k.u8
 unfold Yo;refine tB (P:=λ e=>e.1<0∨(0<=e.1/\e.1<(U:Int)/\∃u,d.CO[e.1.toNat]?=some u/\u.state=1/\u.Dx=0)) (tL (λ s=>(s.1<0∨(0<=s.1/\s.1<(U:Int)/\∃u,d.CO[s.1.toNat]?=some u/\u.state=1/\u.Dx=0))/\0<=s.2.2.2/\s.2.2.2<=(U:Int)) (λ s=>((U:Int) - s.2.2.2).toNat) ⟨Or.inl AS,AR,AR⟩ ?_) (λ ⟨_,_,_,_⟩ m=>tS m);rintro ⟨b,le,y,i⟩ ⟨f,j,t⟩;dsimp only at j;refine tD (λ Dv=>?_) λ _=>tS f;rw[C2 AQ AQ];refine tI AQ λ u o g=>tB (Aad h u (h.uo u g)) ?_;rintro ⟨x,v⟩ R7;have HC:=h.uo u g;refine tC (λ e=>tD (λ _=>tC (λ _=>tS ⟨⟨f,AR,AR⟩,AR⟩) λ _=>tD (λ _=>tS ⟨⟨f,AR,AR⟩,AR⟩) λ _=>tB (Avz h.n _ h.s u.cell a (by have:=HC.ac (R7 e).1;have:=HC.ce;omega) AQ) ?_) λ _=>tS ⟨⟨f,AR,AR⟩,AR⟩) λ _=>tS ⟨⟨f,AR,AR⟩,AR⟩;rintro ⟨w,q⟩ _;have l:i<0∨(0<=i/\i<(U:Int)/\∃u,d.CO[i.toNat]?=some u/\u.state=1/\u.Dx=0):=Or.inr ⟨j,AQ,u,o,R7 e⟩;exact tC (λ _=>tD (λ _=>tS ⟨⟨l,AR,AR⟩,AR⟩) λ _=>tD (λ _=>tS ⟨⟨l,AR,AR⟩,AR⟩) λ _=>tS ⟨⟨f,AR,AR⟩,AR⟩) λ _=>tS ⟨⟨f,AR,AR⟩,AR⟩
theorem VM.same{C S T}{u}(h:VM C S T u)(v)(a:v.Ev=u.Ev)(h2:v.cell=u.cell)(b:v.Ff=u.Ff)(f:v.DY=u.DY)(g:v.state=u.state)(i:∀c∈v.De,0<=c/\c<(C:Int))(j:v.De.length<=1000):VM C S T v:=
 ⟨a ▸ h.hm,h2 ▸ h.ce,b ▸ h.tt,f ▸ h.tk,i,j,λ e=>by rw[h2];exact h.ac (g ▸ e)⟩
theorem DK.Aml{C B S U T}{d}(h:DK C B S U T d)(e):DK C B S U T {d with CP:=e}:=⟨h.n,h.k,h.s,h.ul,h.uo,h.tl,h.t32,h.to⟩
def P4(C B S U T:Nat)(d:DX)(a:Ag)(k:Nat)(r:Aa×Ab×Ag×Ak):Prop:=
 DK C B S U T {d with CQ:=r.1,CR:=r.2.1,CO:=r.2.2.1,CP:=r.2.2.2}/\r.1=d.CQ/\r.2.2.1.map core=a.map core/\r.2.2.1.length=d.CO.length/\r.2.2.2.length<=d.CP.length+k
theorem Ps{C B S U T}{d}(h:DK C B S U T d)(a s)(u)(q:0<=a/\a<(U:Int))(m:d.CO[a.toNat]?=some u)(K:0<=KG u)(r:0<=s/\s<(S:Int))(I:d.CP.length<=100000):DT (GM d a s) (P4 C B S U T d d.CO 2):=by
 have OY:=h.ul;have f:0<=a/\a<(d.CO.length:Int):=AQ;have UY:=Bt m;have HC:=h.uo u UY;unfold GM;refine tI f λ x hx N=>?_;obtain rfl:u=x:=by rw[m] at hx;exact Bf hx
 refine tB (Ft _ 23 a s AS) λ e j=>tJ f (tT (Y6 _) ?_);have l:=j.2;dsimp only at l;refine tB (Avz h.n d.sg h.s _ s (by have:=HC.last;unfold KG at*;dsimp only;omega) r) ?_;rintro ⟨w,Q⟩ ⟨o,g⟩;dsimp only at o;simp only[Cr];have key:∀b:Aa,b.length<=1000->(∀c∈b,0<=c/\c<(C:Int))->DK C B S U T {d with CO:=d.CO.set a.toNat {u with EI:=0,De:=b},CP:=e}/\(d.CO.set a.toNat {u with EI:=0,De:=b}).map core=d.CO.map core:=λ b i h2=>
   ⟨(h.N8 a.toNat {u with EI:=0,De:=b} (HC.same _ rfl rfl rfl rfl rfl h2 i)).Aml e,D3 m rfl⟩
 have fin:∀b:Aa,b.length<=1000->(∀c∈b,0<=c/\c<(C:Int))->DT (Option.bind (G2 {d with CO:=d.CO.set a.toNat {u with EI:=0,De:=b},CP:=e} a) λ x=>some (x.1,x.2.1,x.2.2.1,x.2.2.2)) (P4 C B S U T d d.CO 2):=λ b i h2=>by
   refine tB (Mc (key b i h2).1 a q AS) ?_;rintro ⟨R,V,W,Y⟩ ⟨t,v,z,E,H⟩;exact tS ⟨t,v,z.trans (key b i h2).2,by simpa using E,by dsimp only at H ⊢;omega⟩
 have stay:∀b:Aa,b.length<=1000->(∀c∈b,0<=c/\c<(C:Int))->P4 C B S U T d d.CO 2 (d.CQ,d.CR,d.CO.set a.toNat {u with EI:=0,De:=b},e):=λ b i h2=>
   ⟨(key b i h2).1,rfl,(key b i h2).2,AT,AS⟩
 refine tC (λ _=>tJ f ?_) (λ _=>tB (LS h.k a) λ p _=>tD (λ _=>tJ f ?_) λ _=>tS (stay [] AT all_nil))
 . refine tB (LS h.k a) λ p _=>tD (λ _=>tJ f ?_) λ _=>tS (stay w AQ g);exact tD (λ _=>fin w AQ g) λ EH=>tI AQ λ y _ _=>tD (λ _=>tS (stay w AQ g)) λ _=>fin w AQ g
 . dsimp only;exact tD (λ _=>fin [] AT all_nil) λ EH=>absurd rfl EH
theorem PV{C B S U T}{d}(h:DK C B S U T d)(a)(u)(z:0<=a/\a<(U:Int))(R:d.CO[a.toNat]?=some u)(hl:0<=KG u)(he:d.CP.length<=100000 - 10):DT (Gi d a) (λ r=>∃p:Int,(p=0∨p=3)/\P4 C B S U T d (d.CO.set a.toNat {u with DY:=-1,Dx:=p}) 3 r):=by
 have OY:=h.ul;have b:0<=a/\a<(d.CO.length:Int):=AQ;have UY:=Bt R;have HC:=h.uo u UY;have E:=HC.last;unfold Gi;refine tI b λ x hx hm=>?_;obtain rfl:u=x:=by rw[R] at hx;exact Bf hx
 refine tJ b (tT (Y6 _) ?_);have a1:KG {u with DY:=-1}=KG u:=rfl;simp only[Cr];have g:∀v:KP,v.Ev=u.Ev->v.cell=u.cell->v.Ff=u.Ff->v.DY=-1->v.state=u.state->(∀c∈v.De,0<=c/\c<(C:Int))->v.De.length<=1000->VM C S T v:=λ v q h2 s t w h6 h7=>
   ⟨q ▸ HC.hm,h2 ▸ HC.ce,s ▸ HC.tt,by rw[t];omega,h6,h7,λ e=>by rw[h2];exact HC.ac (w ▸ e)⟩
 have l:∀v:KP,v.cell=u.cell->v.Ff=u.Ff->v.DY=-1->v.state=u.state->(d.CO.set a.toNat v).map core=(d.CO.set a.toNat {u with DY:=-1,Dx:=v.Dx}).map core:=λ v h2 s t w=>by
   unfold core;simp[h2,s,t,w]
 refine tB (Abk h.n (KG u) E.2) λ dp a0=>tD (λ h0=>?_) λ hn=>?_
 . have JT:=h.N8 a.toNat {u with DY:=-1,Dx:=0} (g _ rfl rfl rfl rfl rfl HC.rt HC.rl);refine tB (Mc JT a z AS) ?_;rintro ⟨W,Y,N,Z⟩ ⟨j,m,k,i,o⟩;dsimp only at o;rw[Bv] at i;refine tG i λ _=>tI AQ λ y V I=>tT (Y6 y) ?_;have f:core y=core {u with DY:=-1,Dx:=0}:=by
     have q:(N.map core)[a.toNat]?=some (core y):=by rw[BC,V];rfl
     rw[k,BC,gs AQ] at q;exact (Bf q).symm
   unfold core at f;simp only[Ci] at f;have K:=j.uo y I;have a2:KG y=KG u:=by unfold KG;rw[f.2.1,f.2.2.1]
   refine tB (XY h.n (KG y) AQ) λ rt H=>tS ⟨0,Or.inl rfl,?_,m,?_,by simpa using i,AS⟩
   . exact j.N8 a.toNat {y with De:=rt} (K.same _ rfl rfl rfl rfl rfl H.2 AS)
   . dsimp only;rw[D3 V (by rfl),k]
 . refine tJ b (tD (λ Q=>?_) λ Q=>?_)
   . have JT:=h.N8 a.toNat {u with DY:=-1,Dx:=3} (g _ rfl rfl rfl rfl rfl HC.rt HC.rl);refine tB (Ps JT a u.Ev {u with DY:=-1,Dx:=3} z (gs AQ) hl ⟨Q,HC.hm.2⟩ AS) ?_;rintro ⟨W,Y,N,Z⟩ ⟨j,m,k,i,o⟩;dsimp only at o;exact tS ⟨3,Or.inr rfl,j,m,k.trans (l _ rfl rfl rfl rfl),by simpa using i,AS⟩
   . refine tJ b ?_;have JT:=h.N8 a.toNat {u with DY:=-1,Dx:=3,EI:=0,De:=[]} (g _ rfl rfl rfl rfl rfl all_nil AT);refine tB (Mc JT a z AS) ?_;rintro ⟨W,Y,N,Z⟩ ⟨j,m,k,i,o⟩;dsimp only at o;exact tS ⟨3,Or.inr rfl,j,m,k.trans (l _ rfl rfl rfl rfl),by simpa using i,AS⟩
def OWN(o:Aa)(a:Ag):Prop:=∀(i:Nat) u,a[i]?=some u->u.state=1->o[u.cell.toNat]?=some (i:Int)/\(u.Ff≠-1->o[u.Ff.toNat]?=some (i:Int)/\u.Ff≠u.cell)
structure TL(us:Ag)(ts:Ao):Prop where
 a:∀(j:Nat) t,ts[j]?=some t->t.state=1∨t.state=2->∃u,us[t.CZ.toNat]?=some u/\u.state=1/\u.DY=(j:Int)
 b:∀(i:Nat) u,us[i]?=some u->0<=u.DY->u.state=1/\(u.Dx=1∨u.Dx=2)/\∃t,ts[u.DY.toNat]?=some t/\t.CZ=(i:Int)/\(t.state=1∨t.state=2)
 c:∀(i:Nat) u,us[i]?=some u->u.state=1->u.Dx=1∨u.Dx=2->0<=u.DY
 d:∀(i:Nat) u,us[i]?=some u->u.state=0->u.Ff=-1
theorem Lm{e Ka:Ag}(h:Ka.map core=e.map core){i:Nat}{b}(f:Ka[i]?=some b):∃u,e[i]?=some u/\core u=core b:=by
 have a:(Ka.map core)[i]?=some (core b):=by rw[BC,f];rfl
 rw[h,BC] at a;cases hx:e[i]? with
 | none=>rw[hx] at a;cases a
 | some u=>rw[hx] at a;exact ⟨u,rfl,Bf a⟩
theorem NB{u v}(h:core u=core v):u.state=v.state/\u.cell=v.cell/\u.Ff=v.Ff/\u.DY=v.DY/\u.Dx=v.Dx:=by
 unfold core at h;simpa only[Prod.mk.injEq] using h
theorem OWN.core{o}{b Ka}(h:OWN o b)(e:Ka.map core=b.map core):OWN o Ka:=by
 intro i q a l;obtain ⟨u,m,k⟩:=Lm e a;obtain ⟨f,g,j,n,p⟩:=NB k;have:=h i u m (f.trans l);rw[<-g,<-j];exact this
theorem TL.core{v Ka}{s}(h:TL v s)(e:Ka.map core=v.map core):TL Ka s:=by
 refine ⟨λ j t y x=>?_,λ i o f w=>?_,λ i o f r h2=>?_,λ i o f w=>?_⟩
 . obtain ⟨u,k,r,h2⟩:=h.a j t y x;obtain ⟨o,f,g⟩:=Lm e.symm k;obtain ⟨l,p,q,m,n⟩:=NB g;exact ⟨o,f,l.trans r,m.trans h2⟩
 . obtain ⟨u,k,g⟩:=Lm e f;obtain ⟨l,p,q,m,n⟩:=NB g;have:=h.b i u k AQ;rw[<-l,<-n,<-m];exact this
 . obtain ⟨u,k,g⟩:=Lm e f;obtain ⟨l,p,q,m,n⟩:=NB g;have:=h.c i u k AQ AQ;omega
 . obtain ⟨u,k,g⟩:=Lm e f;obtain ⟨l,p,q,m,n⟩:=NB g;have:=h.d i u k AQ;omega
theorem ER{α:Type}{l:List α}{i j}{v x}(h:(l.set i v)[j]?=some x):(i=j/\x=v)∨(i≠j/\l[j]?=some x):=by
 rw[BH] at h;split at h
 . rename_i e;split at h
   . exact Or.inl ⟨e,(Bf h).symm⟩
   . cases h
 . rename_i e;exact Or.inr ⟨e,h⟩
theorem IT{α:Type}{l:List α}{i j}{v}(h:i≠j):(l.set i v)[j]?=l[j]?:=by rw[BH,if_neg h]
theorem TL.finish{q}{o}(h:TL q o){j}{t}{s p}(r:o[j]?=some t)(H:t.state=1∨t.state=2)(E:¬(s=1∨s=2)){i:Nat}{u}(B:t.CZ=(i:Int))(l:q[i]?=some u)(I:p=0∨p=3):TL (q.set i {u with DY:=-1,Dx:=p}) (o.set j {t with state:=s}):=by
 obtain ⟨K,MT,VD,Sp⟩:=h.a j t r H;rw[B,Be,l] at MT;cases MT;refine ⟨λ k x hx I6=>?_,λ k x hx f=>?_,λ k x hx g h2=>?_,λ k x hx f=>?_⟩;rotate_left 3
 . rcases ER hx with ⟨rfl,rfl⟩ | ⟨EH,hx⟩
   . exact h.d i u l f
   . exact h.d k x hx f
 . rcases ER hx with ⟨rfl,rfl⟩ | ⟨EH,hx⟩
   . exact absurd I6 E
   . obtain ⟨w,m,g,h2⟩:=h.a k x hx I6;refine ⟨w,?_,g,h2⟩;rw[IT];exact m;intro e;rw[<-e,l] at m;cases m;omega
 . rcases ER hx with ⟨rfl,rfl⟩ | ⟨EH,hx⟩
   . dsimp only at f;omega
   . obtain ⟨g,h2,y,n,v,z⟩:=h.b k x hx f;refine ⟨g,h2,y,?_,v,z⟩;rw[IT];exact n;intro e;rw[<-e,r] at n;cases n;omega
 . rcases ER hx with ⟨rfl,rfl⟩ | ⟨EH,hx⟩
   . dsimp only at h2;omega
   . exact h.c k x hx g h2
theorem TL.drop{l}{g}(h:TL l g){j}{t}{s}(r:g[j]?=some t)(q:¬(t.state=1∨t.state=2))(p:¬(s=1∨s=2)):TL l (g.set j {t with state:=s}):=by
 refine ⟨λ k x hx I6=>?_,λ k x hx m=>?_,h.c,h.d⟩
 . rcases ER hx with ⟨rfl,rfl⟩ | ⟨EH,hx⟩
   . exact absurd I6 p
   . exact h.a k x hx I6
 . obtain ⟨n,h2,y,f,o,i⟩:=h.b k x hx m;refine ⟨n,h2,y,?_,o,i⟩;rw[IT];exact f;intro e;rw[<-e,r] at f;cases f;exact q i
theorem TL.on{m}{i}(h:TL m i){j}{t}{s}(f:i[j]?=some t)(r:t.state=1∨t.state=2)(q:s=1∨s=2):TL m (i.set j {t with state:=s}):=by
 refine ⟨λ k x hx I6=>?_,λ k x hx n=>?_,h.c,h.d⟩
 . rcases ER hx with ⟨rfl,rfl⟩ | ⟨EH,hx⟩
   . exact h.a j t f r
   . exact h.a k x hx I6
 . obtain ⟨o,h2,y,g,l,p⟩:=h.b k x hx n;refine ⟨o,h2,?_⟩;by_cases e:j=x.DY.toNat
   . subst e;rw[f] at g;cases g;exact ⟨_,gs (Fq f),l,q⟩
   . exact ⟨y,by rw[IT e];exact g,l,p⟩
theorem TL.Ang{j}{l}(h:TL j l){i}{u v}(p:j[i]?=some u)(h0:u.DY<0)(q:v.DY<0)(m:v.state=1->¬(v.Dx=1∨v.Dx=2))(n:v.state=0->v.Ff=-1):TL (j.set i v) l:=by
 refine ⟨λ k x hx I6=>?_,λ k x hx o=>?_,λ k x hx f h2=>?_,λ k x hx h0=>by rcases ER hx with ⟨rfl,rfl⟩ | ⟨EH,hx⟩;exact n h0;exact h.d k x hx h0⟩
 . obtain ⟨w,g,f,h2⟩:=h.a k x hx I6;refine ⟨w,?_,f,h2⟩;rw[IT];exact g;intro e;rw[<-e,p] at g;cases g;omega
 . rcases ER hx with ⟨rfl,rfl⟩ | ⟨EH,hx⟩
   . omega
   . exact h.b k x hx o
 . rcases ER hx with ⟨rfl,rfl⟩ | ⟨EH,hx⟩
   . exact absurd h2 (m f)
   . exact h.c k x hx f h2
theorem OWN.Anf{o}{b}(h:OWN o b){i}{u}(v)(j:b[i]?=some u)(f:v.state=u.state∨v.state≠1)(h2:v.cell=u.cell)(g:v.Ff=u.Ff):OWN o (b.set i v):=by
 intro k x hx a;rcases ER hx with ⟨rfl,rfl⟩ | ⟨EH,hx⟩
 . have:=h i u j (by rcases f with e | e;exact e ▸ a;exact absurd a e);rw[h2,g];exact this
 . exact h k x hx a
structure DW(C B S U T:Nat)(d:DX):Prop where
 k:DK C B S U T d
 o:OWN d.CQ d.CO
 t:TL d.CO d.CS
def act(a:Ag):Nat:=(a.filter (λ u=>u.state==1)).length
def Mo(a:Ag):Aa:=a.map (·.state)
theorem J1{a Ka}(h:Ka.map core=a.map core):Mo Ka=Mo a:=by
 have:=B3 (List.map (λ c:Int×Int×Int×Int×Int=>c.1)) h
 simpa [Mo,core,Function.comp_def] using this
theorem Avy{a Ka}(h:Mo Ka=Mo a):act Ka=act a:=by
 have:∀a:Ag,act a=((Mo a).filter (· ==1)).length:=by
   intro a;unfold act Mo;rw[List.filter_map,Cs];rfl
 rw[this,this,h]
theorem Aqb{C B S U T}{d}(h:DW C B S U T d)(a s k)(N:0<=a/\a<(T:Int))(j:¬(s=1∨s=2))(Q:d.CP.length<=90000):DT (Zu d a s k) (λ r=>DW C B S U T {d with CQ:=r.1,CR:=r.2.1,CO:=r.2.2.1,CS:=r.2.2.2.1,CP:=r.2.2.2.2}/\r.1=d.CQ/\Mo r.2.2.1=Mo d.CO/\r.2.2.1.length=d.CO.length/\r.2.2.2.1.length=d.CS.length/\r.2.2.2.2.length<=d.CP.length+4):=by
 have R6:=h.k.tl;have OY:=h.k.ul
 have b:0<=a/\a<(d.CS.length:Int):=AQ;unfold Zu;refine tB (Ft _ k a 0 AQ) λ e z=>tI b λ t l m=>?_;have f:=h.k.to t m;have h2:TOK S U {t with state:=s}:=⟨f.pk,f.dr,λ E=>absurd E j⟩;have JT:DK C B S U T {d with CS:=d.CS.set a.toNat {t with state:=s},CP:=e}:=⟨h.k.n,h.k.k,h.k.s,h.k.ul,h.k.uo,by rw[Bv];exact R6,h.k.t32,ES h.k.to h2⟩;have fin:(t.state=1∨t.state=2)->DT (Option.bind (Gi {d with CS:=d.CS.set a.toNat {t with state:=s},CP:=e} t.CZ) λ x=>some (x.1,x.2.1,x.2.2.1,d.CS.set a.toNat {t with state:=s},x.2.2.2)) (λ r=>DW C B S U T {d with CQ:=r.1,CR:=r.2.1,CO:=r.2.2.1,CS:=r.2.2.2.1,CP:=r.2.2.2.2}/\r.1=d.CQ/\Mo r.2.2.1=Mo d.CO/\r.2.2.1.length=d.CO.length/\r.2.2.2.1.length=d.CS.length/\r.2.2.2.2.length<=d.CP.length+4):=by
   intro Ly;obtain ⟨u,g,H8,MT⟩:=h.t.a _ t l Ly;have i:=f.rb Ly;refine tB (PV JT t.CZ u i g ((h.k.uo u (Bt g)).Adg H8) AS) ?_;rintro ⟨V,W,Y,Z⟩ ⟨p,H,I,y,q,K,R⟩;dsimp only at*;refine tS ⟨⟨I,?_,?_⟩,y,?_,K,AT,AS⟩
   . dsimp only;rw[y];exact (h.o.Anf {u with DY:=-1,Dx:=p} g (Or.inl rfl) rfl rfl).core q
   . exact (h.t.finish l Ly j AQ g H).core q
   . rw[J1 q];unfold Mo;exact D3 g rfl
 refine tD (λ v=>tJ b (fin (Or.inl v))) λ v=>tD (λ w=>tJ b (fin (Or.inr w))) λ w=>tS ⟨⟨JT,h.o,h.t.drop l AQ j⟩,rfl,rfl,rfl,AT,AS⟩
theorem Aqj{C B S U T}{d}(h:DW C B S U T d)(a)(u)(ha:0<=a/\a<(U:Int))(l:d.CO[a.toNat]?=some u)(I:u.state=1):DT (QS d a) (λ r=>DW C B S U T {d with CQ:=r.1,CR:=r.2.1,CO:=r.2.2}/\Mo r.2.2=Mo d.CO):=by
 have OY:=h.k.ul;have g:0<=a/\a<(d.CO.length:Int):=AQ;have UY:=Bt l;have HC:=h.k.uo u UY;have Ut:d.CV.length=S:=h.k.n.ns;unfold QS;refine tI g λ x hx _=>?_;obtain rfl:u=x:=by rw[l] at hx;exact Bf hx
 refine tD (λ _=>tS ⟨h,rfl⟩) λ K=>?_;obtain ⟨R,o2⟩:=h.o _ u l I;obtain ⟨o3,o4⟩:=o2 K;have z:=HC.ac I;have a0:=HC.tt;have y:((a.toNat:Nat):Int)=a:=AQ;refine tB (N3 h.k.k u.cell ⟨z,HC.ce.2⟩ (by rw[R];intro e;have:=Bf e;omega)) ?_;rintro _ ⟨rfl,Sp⟩;refine tJ g (?_);simp only[Cr];refine tJ g ?_;dsimp only;have fin:∀v:KP,v.state=u.state->v.cell=u.Ff->v.Ff=-1->v.DY=u.DY->v.Ev=u.Ev->(v.Dx=u.Dx∨(u.Dx=3/\v.Dx=0))->(∀c∈v.De,0<=c/\c<(C:Int))->v.De.length<=1000->DW C B S U T {d with CQ:=d.CQ.set u.cell.toNat (-1),CR:=d.CR,CO:=d.CO.set a.toNat v}/\Mo (d.CO.set a.toNat v)=Mo d.CO:=by
   intro v Y Z v3 v4 v5 v6 v7 v8;refine ⟨⟨⟨h.k.n,Sp,h.k.s,by simpa using OY,ES h.k.uo ⟨by rw[v5];exact HC.hm,by rw[Z];omega,by rw[v3];omega,by rw[v4];exact HC.tk,v7,v8,λ _=>by rw[Z];omega⟩,h.k.tl,h.k.t32,h.k.to⟩,?_,?_⟩,D3 l Y⟩
   . intro i w f Q;rcases ER f with ⟨rfl,rfl⟩ | ⟨EH,f⟩
     . rw[Z,v3];refine ⟨?_,λ E=>absurd rfl E⟩;rw[IT AQ,o3,y]
     . have a1:=h.k.uo w (Bt f);obtain ⟨V,p2⟩:=h.o i w f Q;have q1:u.cell.toNat≠w.cell.toNat:=by
         intro e;rw[<-e,R] at V;have:=Bf V;omega
       refine ⟨by rw[IT q1];exact V,λ E=>?_⟩;obtain ⟨W,p4⟩:=p2 E;refine ⟨?_,p4⟩;rw[IT];exact W;intro e;rw[<-e,R] at W;have:=Bf W;omega
   . refine ⟨λ j t ht N=>?_,λ i w f m=>?_,λ i w f h1 h2=>?_,λ i w f m=>by rcases ER f with ⟨rfl,rfl⟩ | ⟨EH,f⟩;exact v3;exact h.t.d i w f m⟩
     . obtain ⟨w,f,p,w2⟩:=h.t.a j t ht N;by_cases e:a.toNat=t.CZ.toNat
       . rw[<-e,l] at f;cases f;exact ⟨v,by dsimp only;rw[<-e];exact gs AQ,Y.trans p,v4.trans w2⟩
       . exact ⟨w,by dsimp only;rw[IT e];exact f,p,w2⟩
     . rcases ER f with ⟨rfl,rfl⟩ | ⟨EH,f⟩
       . obtain ⟨p,w2,w3⟩:=h.t.b _ u l AQ;refine ⟨Y.trans p,AQ,?_⟩;rw[v4];exact w3
       . exact h.t.b i w f m
     . rcases ER f with ⟨rfl,rfl⟩ | ⟨EH,f⟩
       . have:=h.t.c _ u l I AQ;omega
       . exact h.t.c i w f h1 h2
 have q:=fin {u with cell:=u.Ff,Ff:=-1} rfl rfl rfl rfl rfl (Or.inl rfl) HC.rt HC.rl;refine tD (λ hp=>tD (λ m=>tI (by have:=HC.hm;omega) λ s _ _=>tD (λ _=>tJ g ?_) λ _=>tS q) λ _=>tS q) λ _=>tS q;refine tB (XY h.k.n u.Ff AQ) λ rt H=>tS ?_;exact fin {u with cell:=u.Ff,Ff:=-1,Dx:=0,De:=rt} rfl rfl rfl rfl rfl (Or.inr ⟨hp,rfl⟩) H.2 AS
theorem Aq6{C B S U T}{d}(h:DW C B S U T d)(a)(u)(ha:0<=a/\a<(U:Int))(f:d.CO[a.toNat]?=some u)(he:d.CP.length<=80000):DT (QP d a) (λ r=>DW C B S U T {d with CQ:=r.1,CR:=r.2.1,CO:=r.2.2.1,CS:=r.2.2.2.1,CP:=r.2.2.2.2}/\Mo r.2.2.1=Mo d.CO/\r.2.2.2.2.length<=d.CP.length+10):=by
 have OY:=h.k.ul;have R6:=h.k.tl
 have N:0<=a/\a<(d.CO.length:Int):=AQ;have HC:=h.k.uo u (Bt f);have a1:=HC.tk;unfold QP;refine tI N λ x hx _=>?_;obtain rfl:u=x:=by rw[f] at hx;exact Bf hx
 refine tC (λ _=>tJ N ?_) λ _=>tS ⟨h,rfl,AR⟩;dsimp only;have Adq:∀v:KP,v.state=u.state->v.cell=u.cell->v.Ff=u.Ff->v.DY=u.DY->v.Ev=u.Ev->(∀c∈v.De,0<=c/\c<(C:Int))->v.De.length<=1000->VM C S T v:=λ v v1 v2 v3 v4 v5 v6 v7=>HC.same v v5 v2 v3 v4 v1 v6 v7;have w0:DW C B S U T {d with CO:=d.CO.set a.toNat {u with DH:=false}}:=
   ⟨h.k.N8 _ _ (Adq {u with DH:=false} rfl rfl rfl rfl rfl HC.rt HC.rl),h.o.core (D3 f rfl),h.t.core (D3 f rfl)⟩
 have s0:Mo (d.CO.set a.toNat {u with DH:=false})=Mo d.CO:=D3 f rfl;refine tD (λ _=>tS ⟨w0,s0,AR⟩) λ Y=>?_;obtain ⟨b1,b2,t,K,b4,W⟩:=h.t.b _ u f AQ;have l:=h.k.to t (Bt K);have H:0<=u.DY/\u.DY<(d.CS.length:Int):=AQ;refine tD (λ hp=>?_) λ _=>tD (λ hp=>?_) λ _=>tS ⟨w0,s0,AR⟩
 . refine tI H λ y R _=>tB (Ft _ 3 u.DY a AS) λ e q=>tJ H ?_;obtain rfl:t=y:=by rw[K] at R;exact Bf R
   have E:=q.2;dsimp only at E;simp only[Cr];have k1:DK C B S U T {d with CO:=d.CO.set a.toNat {u with DH:=false,Dx:=2},CS:=d.CS.set u.DY.toNat {t with state:=2},CP:=e}:=
     ⟨h.k.n,h.k.k,h.k.s,by simpa using OY,ES h.k.uo (Adq {u with DH:=false,Dx:=2} rfl rfl rfl rfl rfl HC.rt HC.rl),by simpa using R6,h.k.t32,ES h.k.to ⟨l.pk,l.dr,λ _=>l.rb W⟩⟩
   refine tB (Ps k1 a t.drop {u with DH:=false,Dx:=2} ha (gs AQ) (HC.Adg b1) l.dr AS) ?_;rintro ⟨x1,x2,x3,x4⟩ ⟨q1,q2,m,q4,q5⟩;dsimp only at*;refine tS ⟨⟨q1,?_,?_⟩,?_,AS⟩
   . dsimp only;rw[q2];exact (h.o.Anf {u with DH:=false,Dx:=2} f (Or.inl rfl) rfl rfl).core m
   . refine TL.core ?_ m;have:=h.t.on K W (s:=2) (Or.inr rfl);refine ⟨λ j z hz a0=>?_,λ i w g Q=>?_,λ i w g I V=>?_,λ i w g Y=>by rcases ER g with ⟨rfl,rfl⟩ | ⟨EH,g⟩;exact this.d _ u f Y;exact this.d i w g Y⟩
     . obtain ⟨w,g,I,V⟩:=this.a j z hz a0;by_cases e:a.toNat=z.CZ.toNat
       . rw[<-e,f] at g;cases g;exact ⟨{u with DH:=false,Dx:=2},by rw[<-e];exact gs (Fq f),I,V⟩
       . exact ⟨w,by rw[IT e];exact g,I,V⟩
     . rcases ER g with ⟨rfl,rfl⟩ | ⟨EH,g⟩
       . obtain ⟨I,V,w3⟩:=this.b _ u f Q;exact ⟨I,Or.inr rfl,w3⟩
       . exact this.b i w g Q
     . rcases ER g with ⟨rfl,rfl⟩ | ⟨EH,g⟩
       . dsimp only;omega
       . exact this.c i w g I V
   . rw[J1 m];exact D3 f rfl
 . refine tI H λ y R _=>tB (Ft _ 4 u.DY a AS) λ e q=>?_;obtain rfl:t=y:=by rw[K] at R;exact Bf R
   have E:=q.2;dsimp only at E;have k1:DK C B S U T {d with CO:=d.CO.set a.toNat {u with DH:=false},CS:=d.CS.set u.DY.toNat {t with state:=3},CP:=e}:=
     ⟨h.k.n,h.k.k,h.k.s,by simpa using OY,ES h.k.uo (Adq {u with DH:=false} rfl rfl rfl rfl rfl HC.rt HC.rl),by simpa using R6,h.k.t32,ES h.k.to ⟨l.pk,l.dr,λ hh=>by dsimp only at hh;omega⟩⟩
   refine tB (PV k1 a {u with DH:=false} ha (gs AQ) (HC.Adg b1) AS) ?_;rintro ⟨x1,x2,x3,x4⟩ ⟨p,Z,q1,q2,m,q4,q5⟩;dsimp only at*;rw[Cr] at m;have q6:(d.CO.set a.toNat {u with DH:=false,DY:=-1,Dx:=p}).map core=(d.CO.set a.toNat {u with DY:=-1,Dx:=p}).map core:=by
     rw[BI,BI];rfl
   refine tS ⟨⟨q1,?_,?_⟩,?_,AS⟩
   . dsimp only;rw[q2];exact (h.o.Anf {u with DH:=false,DY:=-1,Dx:=p} f (Or.inl rfl) rfl rfl).core m
   . exact (h.t.finish K W (s:=3) AQ b4 f Z).core (m.trans q6)
   . rw[J1 m];exact D3 f rfl
theorem Bl6{e}{i}{u v}(b:e[i]?=some u)(j:u.state=1)(h2:v.state≠1):act (e.set i v)+1=act e:=by
 induction e generalizing i with
 | nil=>simp at b
 | cons a l k=>
   cases i with
   | zero=>
     simp only[BF,Bo] at b;subst b;have f:(a.state==1)=true:=by simp[j]
     have g:(v.state==1)=false:=by simp[h2]
     simp[act,Cm,f,g]
   | succ i=>
     have:=k b;unfold act at this ⊢;simp only[BQ,Cm];split
     . simp only[Br];omega
     . exact this
theorem Ago{C B S U T}{d}(h:DW C B S U T d)(he:d.CP.length<=1000)(hl:d.DO.length<=1000):DT (MX d) (λ r=>DW C B S U T {d with CQ:=r.1,CR:=r.2.1,CO:=r.2.2.1,CP:=r.2.2.2.1,DO:=r.2.2.2.2}/\r.2.2.2.1.length<=d.CP.length+16/\r.2.2.2.2.length<=d.DO.length+8/\((∀x∈d.DO,0<=x/\x<(U:Int))->∀x∈r.2.2.2.2,0<=x/\x<(U:Int))):=by
 have h8:=h.k.k.u8;unfold MX;refine tB (P:=λ e=>DW C B S U T {d with CQ:=e.2.2.2.1,CR:=e.2.2.2.2.1,CO:=e.1,CP:=e.2.1,DO:=e.2.2.1}/\e.2.1.length<=d.CP.length+16/\e.2.2.1.length<=d.DO.length+8/\((∀x∈d.DO,0<=x/\x<(U:Int))->∀x∈e.2.2.1,0<=x/\x<(U:Int))) (tL (λ s=>DW C B S U T {d with CQ:=s.2.2.2.1,CR:=s.2.2.2.2.1,CO:=s.1,CP:=s.2.1,DO:=s.2.2.1}/\(s.2.1.length:Int)<=d.CP.length+2*s.2.2.2.2.2/\(s.2.2.1.length:Int)<=d.DO.length+s.2.2.2.2.2/\((∀x∈d.DO,0<=x/\x<(U:Int))->∀x∈s.2.2.1,0<=x/\x<(U:Int))/\0<=s.2.2.2.2.2/\s.2.2.2.2.2<=(U:Int)) (λ s=>((U:Int) - s.2.2.2.2.2).toNat) ⟨h,AR,AR,λ a=>a,AR,AR⟩ ?_) (λ ⟨x1,x2,x3,x4,x5,x6⟩ a=>tS a);rintro ⟨us,e,V,o,q,i⟩ ⟨f,k2,k3,R,k5,k6⟩;dsimp only at*;have OY:us.length=U:=f.k.ul;refine tD (λ Dv=>?_) λ _=>tS ⟨f,AR,AR,R⟩;rw[C2 AQ AQ];have stay:(DW C B S U T {d with CQ:=o,CR:=q,CO:=us,CP:=e,DO:=V}/\(e.length:Int)<=d.CP.length+2*(i+1)/\(V.length:Int)<=d.DO.length+(i+1)/\((∀x∈d.DO,0<=x/\x<(U:Int))->∀x∈V,0<=x/\x<(U:Int))/\0<=i+1/\i+1<=(U:Int))/\((U:Int) - (i+1)).toNat<((U:Int) - i).toNat:=⟨⟨f,AQ,AQ,R,AQ,AQ⟩,AQ⟩;refine tI AQ λ u H UY=>tD (λ hs=>tC (λ _=>tD (λ hp=>tD (λ a3=>?_) λ _=>tS stay) λ _=>tS stay) λ _=>tS stay) λ _=>tS stay;have a2:u.DY<0:=by
   refine Int.not_le.1 λ a=>?_;have:=(f.t.b _ u H a).2.1;omega
 refine tB (Mc f.k i AQ AS) ?_;rintro ⟨x1,x2,x3,x4⟩ ⟨g,q2,q3,q4,q5⟩;dsimp only at*;refine tG q4 λ _=>tI AQ λ v hv I=>?_;obtain ⟨u2,MT,hc⟩:=Lm q3 hv;rw[H] at MT;cases MT;obtain ⟨c1,E,c3,c4,c5⟩:=NB hc;have m:=g.uo v I;have W:=(f.o _ u H hs).1;have l:=(f.k.uo u UY);have a0:=l.ac hs;have a1:((i.toNat:Nat):Int)=i:=AQ;have hk:=g.k;refine tB (N3 hk v.cell (by have:=l.ce;omega) (by rw[q2,<-E,W];intro e;have:=Bf e;omega)) ?_;rintro _ ⟨rfl,Sp⟩;refine tJ AQ ?_;simp only[Cr];have hg:(x3.set i.toNat {v with cell:=-1,De:=[]})[i.toNat]?=some {v with cell:=-1,De:=[]}:=gs AQ;refine tB (Zs _ i _ AS (by rw[Bv];omega) hg) ?_;rintro ⟨y1,y2⟩ ⟨z,Q⟩;dsimp only at Q;rw[Cr] at z;subst z;refine tG AQ λ _=>tS ⟨⟨⟨⟨g.n,Sp,g.s,by simpa using g.ul,ES g.uo ⟨AS,AS,by dsimp only;have:=m.tt;omega,by dsimp only;have:=m.tk;omega,all_nil,AT,λ a=>by dsimp only at a;omega⟩,g.tl,g.t32,g.to⟩,?_,?_⟩,AS,by dsimp only;rw[List.length_append];simp only[List.length_cons,List.length_nil];omega,λ a=>Es (R a) AQ,AS,AS⟩,AS⟩
 . intro j w K y;rcases ER K with ⟨rfl,rfl⟩ | ⟨EH,K⟩
   . dsimp only at y;omega
   . obtain ⟨w0,p,N⟩:=Lm q3 K;obtain ⟨d1,d2,d3,d4,d5⟩:=NB N;have a4:=f.k.uo w0 (Bt p);obtain ⟨Y,p2⟩:=f.o j w0 p (d1.trans y);rw[<-d2,<-d3,q2];have q7:v.cell.toNat≠w0.cell.toNat:=by
       intro e;rw[<-e,<-E,W] at Y;have:=Bf Y;omega
     refine ⟨by rw[IT q7];exact Y,λ a=>?_⟩;obtain ⟨Z,p4⟩:=p2 a;refine ⟨?_,p4⟩;rw[IT];exact Z;intro e;rw[<-e,<-E,W] at Z;have:=Bf Z;omega
 . have t2:=(f.t.core q3);exact t2.Ang hv AQ AS (by dsimp only;intro a;omega) (by dsimp only;intro a;omega)
theorem Zp{C B S U T}{d}(h:DW C B S U T d)(R:d.CP.length<=10000):DT (Jq d) (λ r=>DW C B S U T {d with CQ:=r.1,CR:=r.2.1,CO:=r.2.2.1,CP:=r.2.2.2}/\r.2.2.2.length<=d.CP.length+16):=by
 have Q:=h.k.k.u8;unfold Jq;refine tB (P:=λ e=>DW C B S U T {d with CQ:=e.2.2.1,CR:=e.2.2.2.1,CO:=e.1,CP:=e.2.1}/\e.2.1.length<=d.CP.length+16) (tL (λ s=>DW C B S U T {d with CQ:=s.2.2.1,CR:=s.2.2.2.1,CO:=s.1,CP:=s.2.1}/\(s.2.1.length:Int)<=d.CP.length+2*s.2.2.2.2/\0<=s.2.2.2.2/\s.2.2.2.2<=(U:Int)) (λ s=>((U:Int) - s.2.2.2.2).toNat) ⟨h,AR,AR,AR⟩ ?_) (λ ⟨H,I,K,N,x5⟩ g=>tS g);rintro ⟨m,e,o,q,i⟩ ⟨a,W,Y,Z⟩;dsimp only at*;have OY:m.length=U:=a.k.ul;refine tD (λ Dv=>?_) λ _=>tS ⟨a,AR⟩;rw[C2 AQ AQ];have stay:(DW C B S U T {d with CQ:=o,CR:=q,CO:=m,CP:=e}/\(e.length:Int)<=d.CP.length+2*(i+1)/\0<=i+1/\i+1<=(U:Int))/\((U:Int) - (i+1)).toNat<((U:Int) - i).toNat:=⟨⟨a,AQ,AQ,AQ⟩,AQ⟩;refine tI AQ λ u j UY=>tB (Aad a.k u (a.k.uo u UY)) ?_;rintro ⟨x,ok⟩ R7;refine tC (λ n=>tD (λ _=>tS stay) λ _=>tD (λ p=>tJ AQ ?_) λ _=>tS stay) λ _=>tS stay;obtain ⟨w,V⟩:=R7 n;have f:u.DY<0:=by
   refine Int.not_le.1 λ g=>?_;have:=(a.t.b _ u j g).2.1;omega
 have HC:=a.k.uo u UY;have y:=a.k.N8 i.toNat {u with Dx:=3} (HC.same _ rfl rfl rfl rfl rfl HC.rt HC.rl);refine tB (Ps y i u.Ev {u with Dx:=3} AQ (gs (Fq j)) (HC.Adg w) ⟨p,HC.hm.2⟩ AS) ?_;rintro ⟨H,I,K,N⟩ ⟨z,E,l,q4,q5⟩;dsimp only at*;refine tS ⟨⟨⟨z,?_,?_⟩,AS,AS,AS⟩,AS⟩
 . dsimp only;rw[E];exact (a.o.Anf {u with Dx:=3} j (Or.inl rfl) rfl rfl).core l
 . have:=f;exact (a.t.Ang j f (v:={u with Dx:=3}) f (by intro _ g;dsimp only at g;omega) (a.t.d _ u j)).core l
theorem TL.Bkk{a}{b}(h:TL a b){j}{t}{s}(q:b[j]?=some t)(o:t.state=1∨t.state=2)(n:¬(s=1∨s=2)){i:Nat}{u}(v)(m:t.CZ=(i:Int))(e:a[i]?=some u)(r:v.DY<0)(k:v.state=1->¬(v.Dx=1∨v.Dx=2))(l:v.state=0->v.Ff=-1):TL (a.set i v) (b.set j {t with state:=s}):=by
 have f:=h.finish (p:=0) q o n m e (Or.inl rfl);have h2:(a.set i {u with DY:=-1,Dx:=0})[i]?=some {u with DY:=-1,Dx:=0}:=gs (Fq e);have g:=f.Ang h2 AS r k l;rwa[Cr] at g
theorem Bie{e}{i}{u v}(b:e[i]?=some u)(j:u.state≠1)(h2:v.state≠1):act (e.set i v)=act e:=by
 induction e generalizing i with
 | nil=>simp at b
 | cons a l k=>
   cases i with
   | zero=>
     simp only[BF,Bo] at b;subst b;have f:(a.state==1)=false:=by simp[j]
     have g:(v.state==1)=false:=by simp[h2]
     simp[act,Cm,f,g]
   | succ i=>
     have:=k b;unfold act at this ⊢;simp only[BQ,Cm];split
     . simp only[Br];omega
     . exact this
def Arb(C B S U T:Nat)(d:DX)(e:Ak)(c:Ad)(b p:Aa)(o:Aa)(q:Ab)(f:Ag)(a:Ao):Prop:=DW C B S U T {d with CQ:=o,CR:=q,closed:=c,Dp:=b,C0:=p,CO:=f,CS:=a,CP:=e}
theorem Aj5{C B S U T}{d}(h:DW C B S U T d)(l)(hl:l.length<=8)(hr:∀x∈l,0<=x/\x<(U:Int))(he:d.CP.length<=20000):DT (Pr d l) (λ r=>Arb C B S U T d r.2.2.2.2.2.2.2 r.2.2.1 r.2.2.2.1 r.2.2.2.2.1 r.1 r.2.1 r.2.2.2.2.2.1 r.2.2.2.2.2.2.1/\r.2.2.2.2.2.2.2.length<=d.CP.length+500/\(act r.2.2.2.2.2.1<=act d.CO)/\(l≠[]->(∀x∈l,∃u,d.CO[x.toNat]?=some u/\u.state=1)->act r.2.2.2.2.2.1<act d.CO)):=by
 have h8:=h.k.k.u8;have NN:=h.k.k.O4
 unfold Pr;refine tB (P:=λ e=>Arb C B S U T d e.2.2.1 e.2.2.2.1 e.2.2.2.2.1 e.2.2.2.2.2.1 e.2.2.2.2.2.2.1 e.2.2.2.2.2.2.2.1 e.1 e.2.1/\e.2.2.1.length<=d.CP.length+500/\(act e.1<=act d.CO)/\(l≠[]->(∀x∈l,∃u,d.CO[x.toNat]?=some u/\u.state=1)->act e.1<act d.CO))
   (tL (λ s=>Arb C B S U T d s.2.2.1 s.2.2.2.1 s.2.2.2.2.1 s.2.2.2.2.2.1 s.2.2.2.2.2.2.1 s.2.2.2.2.2.2.2.1 s.1 s.2.1/\(s.2.2.1.length:Int)<=d.CP.length+55*s.2.2.2.2.2.2.2.2/\act s.1<=act d.CO/\(s.2.2.2.2.2.2.2.2=0->s.1=d.CO)/\(0<s.2.2.2.2.2.2.2.2->(∀x∈l,∃u,d.CO[x.toNat]?=some u/\u.state=1)->act s.1<act d.CO)/\0<=s.2.2.2.2.2.2.2.2/\s.2.2.2.2.2.2.2.2<=(l.length:Int)) (λ s=>((l.length:Int) - s.2.2.2.2.2.2.2.2).toNat) ⟨h,AR,Bk _,λ _=>rfl,λ a=>by dsimp only at a;omega,AR,AR⟩ ?_) (λ ⟨x1,x2,I,x4,x5,x6,x7,x8,x9⟩ a=>tS a)
 rintro ⟨us,ts,e,c,b,p,o,q,i⟩ ⟨j,k2,k3,k4,k5,k6,k7⟩;dsimp only at*;have OY:us.length=U:=j.k.ul;have R6:ts.length=T:=j.k.tl;refine tD (λ Dv=>?_) λ a7=>tS ⟨j,AR,k3,λ EH=>k5 (by have:0<l.length:=Co.2 EH;omega)⟩;rw[C2 (n:=i+1) AQ AQ];refine tI AQ λ x hx Y=>?_;have Kl:=hr x Y;refine tI AQ λ u hu UY=>tB (Mc j.k x Kl AS) ?_;rintro ⟨x1,x2,I,x4⟩ ⟨f,q2,q3,q4,q5⟩;dsimp only at*;refine tB (Ft _ 6 x 0 AS) λ e1 a0=>tG q4 λ _=>tI AQ λ v H a4=>?_;have a1:=a0.2;dsimp only at a1;obtain ⟨u2,MT,hc⟩:=Lm q3 H;rw[hu] at MT;cases MT;obtain ⟨c1,c2,c3,c4,c5⟩:=NB hc;have g:=f.uo v a4;have m:0<=x/\x<(I.length:Int):=AQ;refine tJ m ?_;simp only[Cr];refine tJ m ?_;refine tJ m ?_;have hk:=f.k;refine tB (Xj hk x AQ) ?_;rintro ⟨w,err⟩ ⟨a8,a9,a5⟩;dsimp only at*;refine tB (P:=λ r=>SG C B ⟨r.2.1,r.2.2.1,r.2.2.2.1⟩/\r.1.length<=e1.length+48) (tL (λ s=>SG C B ⟨s.2.1,s.2.2.1,s.2.2.2.1⟩/\(s.1.length:Int)<=e1.length+s.2.2.2.2/\0<=s.2.2.2.2/\s.2.2.2.2<=(w.length:Int)) (λ s=>((w.length:Int) - s.2.2.2.2).toNat) ⟨j.k.s,AR,AR,AR⟩ ?_) ?_
 . rintro ⟨e',c',b',p',k⟩ ⟨Z,m2,m3,m4⟩;dsimp only at*;refine tD (λ So=>?_) λ _=>tS ⟨Z,AR⟩;rw[C2 (n:=k+1) AQ AQ];refine tI AQ λ y _ hy=>tB (Q6 _ y x Z (by have:=a5 y hy;omega)) λ s hs=>tB (Ft _ 7 y x AS) λ e3 z=>tS ?_;have E:=z.2;dsimp only at E;exact ⟨⟨hs.1,AS,AS,AS⟩,AS⟩
 rintro ⟨e',c',b',p',_⟩ ⟨Z,m2⟩;dsimp only at m2;refine tJ m ?_;dsimp only;have V:∀tk:Int,-1<=tk->tk<(T:Int)->VM C S T {v with state:=2,Ev:=-2,DH:=false,De:=[],DY:=tk}:=λ tk K h2=>⟨AS,g.ce,g.tt,⟨K,h2⟩,all_nil,AT,λ a=>by dsimp only at a;omega⟩;have ho:∀tk:Int,OWN x1 (I.set x.toNat {v with state:=2,Ev:=-2,DH:=false,De:=[],DY:=tk}):=λ tk=>by
   rw[q2];exact (j.o.core q3).Anf _ H (Or.inr AS) rfl rfl
 have Bt9:∀tk:Int,act (I.set x.toNat {v with state:=2,Ev:=-2,DH:=false,De:=[],DY:=tk})+(if u.state=1 then 1 else 0)=act us:=λ tk=>by
   rw[<-Avy (J1 q3)];split
   . rename_i e;exact Bl6 H AQ AS
   . rename_i e;exact Bie H AQ AS
 have Bel:∀tk:Int,act (I.set x.toNat {v with state:=2,Ev:=-2,DH:=false,De:=[],DY:=tk})<=act d.CO/\((∀x∈l,∃u,d.CO[x.toNat]?=some u/\u.state=1)->act (I.set x.toNat {v with state:=2,Ev:=-2,DH:=false,De:=[],DY:=tk})<act d.CO):=λ tk=>by
   have K:=Bt9 tk;refine ⟨by split at K<;>omega,λ Fx=>?_⟩;by_cases FC:i=0
   . have a3:=k4 FC;obtain ⟨u',R,a2⟩:=Fx x Y;rw[<-a3,hu] at R;obtain rfl:=Bf R;rw[if_pos a2] at K;omega
   . have:=k5 AQ Fx;split at K<;>omega
 refine tD (λ h0=>?_) λ hn=>?_
 . obtain ⟨b1,b2,t,b3,b4,b5⟩:=j.t.b _ u hu AQ;rw[c4] at b3;refine tI (by have:=g.tk;omega) λ y hy a6=>?_;obtain rfl:t=y:=by rw[b3] at hy;exact Bf hy
   refine tB (Ft _ 5 v.DY 0 AS) λ e3 z=>tS ?_;have E:=z.2;dsimp only at E;have Q:=j.k.to t a6;have N:=Bel (-1);refine ⟨⟨⟨⟨f.n,f.k,Z,by simpa using f.ul,ES f.uo (V (-1) AQ AQ),by simpa using f.tl,f.t32,ES f.to ⟨Q.pk,Q.dr,λ a=>by dsimp only at a;omega⟩⟩,ho (-1),?_⟩,AS,N.1,λ a=>by dsimp only at a;omega,λ _=>N.2,AS,AS⟩,AS⟩;exact (j.t.core q3).Bkk b3 b5 AQ _ b4 H AS (by intro a;dsimp only at a;omega) (by intro a;dsimp only at a;omega)
 . have W:v.DY<0:=AQ;have N:=Bel v.DY;refine tS ⟨⟨⟨⟨f.n,f.k,Z,by simpa using f.ul,ES f.uo (V v.DY g.tk.1 g.tk.2),f.tl,f.t32,f.to⟩,ho v.DY,?_⟩,AS,N.1,λ a=>by dsimp only at a;omega,λ _=>N.2,AS,AS⟩,AS⟩;exact (j.t.core q3).Ang H W W (by intro a;dsimp only at a;omega) (by intro a;dsimp only at a;omega)
def W4(C B S U T:Nat)(d:DX)(k:Nat)(r:Aa×Ab×Ag×Ak):Prop:=
 DW C B S U T {d with CQ:=r.1,CR:=r.2.1,CO:=r.2.2.1,CP:=r.2.2.2}/\r.1=d.CQ/\Mo r.2.2.1=Mo d.CO/\r.2.2.2.length<=d.CP.length+k
theorem Aq4{C B S U T}{d}(h:DW C B S U T d)(a s)(u)(g:0<=a/\a<(U:Int))(f:d.CO[a.toNat]?=some u)(j:u.state=1)(l:0<=s/\s<(S:Int))(i:d.CP.length<=100000):DT (GM d a s) (W4 C B S U T d 2):=by
 refine tW (Ps h.k a s u g f ((h.k.uo u (Bt f)).Adg j) l i) ?_;rintro ⟨q,r,v,w⟩ ⟨m,b,e,p,n⟩;dsimp only at b;exact ⟨⟨m,by dsimp only;rw[b];exact h.o.core e,h.t.core e⟩,b,J1 e,n⟩
theorem Aln{C B S U T}{d}(h:DW C B S U T d)(a)(f:0<=a/\a<(U:Int))(g:d.CP.length<=1000000):DT (G2 d a) (λ r=>W4 C B S U T d 1 r/\r.2.2.1.map core=d.CO.map core):=by
 refine tW (Mc h.k a f g) ?_;rintro ⟨m,n,p,q⟩ ⟨i,e,b,l,j⟩;dsimp only at e;exact ⟨⟨⟨i,by dsimp only;rw[e];exact h.o.core b,h.t.core b⟩,e,J1 b,j⟩,b⟩
theorem Au0{C B S U T}{d}(h:DW C B S U T d)(a)(u)(g:0<=a/\a<(U:Int))(b:d.CO[a.toNat]?=some u)(l:u.state=1)(m:u.DY<0)(i:d.CP.length<=100000 - 10):DT (Gi d a) (W4 C B S U T d 3):=by
 refine tW (PV h.k a u g b ((h.k.uo u (Bt b)).Adg l) i) ?_;rintro ⟨w,x,y,z⟩ ⟨p,r,n,e,f,s,q⟩;dsimp only at e;refine ⟨⟨n,?_,?_⟩,e,?_,q⟩
 . dsimp only;rw[e];exact (h.o.Anf {u with DY:=-1,Dx:=p} b (Or.inl rfl) rfl rfl).core f
 . exact (h.t.Ang b m (v:={u with DY:=-1,Dx:=p}) AS (by intro _ j;dsimp only at j;omega) (h.t.d _ u b)).core f
 . rw[J1 f];exact D3 b rfl
theorem filter_lt{l:Aa}{x}(h:l[0]?=some x):(l.filter (· != x)).length<l.length:=by
 cases l with
 | nil=>simp at h
 | cons a l=>
   simp only[BF,Bo] at h;subst h;have:=List.length_filter_le (· != a) l;simp[Cm];omega
theorem Ags{C B S U T}{d}(h:DK C B S U T d)(he:d.CP.length<=20000):DT (MZ d) (λ r=>SG C B ⟨r.1,r.2.1,r.2.2.1⟩/\r.2.2.2.length<=d.CP.length+24):=by
 have Ut:d.CV.length=S:=h.n.ns;have h6:=h.n.s6;have h8:=h.k.u8;have OY:=h.ul;have R6:=h.tl;have R8:=h.t32;have NN:=h.n.O4;have E:=h.s.pl;have Bke:=h.s.b24;have Y:=h.n.bc
 unfold MZ;refine tB (P:=λ r=>SG C B ⟨r.1,r.2.1,r.2.2.1⟩/\r.2.2.2.length<=d.CP.length+24) (tL (λ s=>SG C B ⟨s.2.1,s.2.2.1,s.2.2.2⟩/\s.1.length+s.2.2.2.length<=d.CP.length+B) (λ s=>s.2.2.2.length) ⟨h.s,by have:d.C0.length<=B:=E;dsimp only;omega⟩ ?_) (λ r hr=>tS hr);rintro ⟨e,c,b,p⟩ ⟨m,k2⟩;dsimp only at k2;refine tG AQ λ _=>tB (P:=λ r=>r.1.length=S/\r.2.1.length<=U/\∀x∈r.2.1,x.length<=1000) (tL (λ s=>(s.1.length=S/\(s.2.1.length:Int)<=s.2.2/\∀x∈s.2.1,x.length<=1000)/\0<=s.2.2/\s.2.2<=(U:Int)) (λ s=>((U:Int) - s.2.2).toNat) ⟨⟨by simp[Ut],AU,all_nil⟩,AR,AR⟩ ?_) ?_
 . rintro ⟨us,V,i⟩ ⟨⟨o,R,q⟩,m4,m5⟩;dsimp only at*;refine tD (λ Dv=>?_) λ _=>tS ⟨o,AR,q⟩;rw[C2 (n:=i+1) AQ AQ];refine tI AQ λ u hu UY=>tB (KN u) λ f _=>tC (λ _=>?_) λ _=>tS ⟨⟨⟨o,AR,q⟩,AR,AR⟩,AR⟩;have HC:=h.uo u UY;refine tG AQ λ _=>?_;have Q:∀v:Ad,v.length=S->DT (C9 (Ll d u) (v,0)) (λ r=>r.1.length=S):=by
     intro v hv;refine tL (λ s=>s.1.length=S/\0<=s.2/\s.2<=2) (λ s=>(2 - s.2).toNat) ⟨hv,AR,AR⟩ ?_;rintro ⟨v,j⟩ ⟨a,p2,p3⟩;dsimp only at a;refine tD (λ So=>tD (λ _=>?_) λ _=>tS a) λ _=>tS a;rw[C2 (n:=j+1) AQ AQ];have Z:=HC.ce;have a0:=HC.tt
     refine tI AW λ x _ hx=>?_;have Kl:x<(C:Int):=by
       simp only[BX,BN,or_false] at hx;rcases hx with rfl | rfl<;>omega
     refine tD (λ _=>tS AR) λ _=>tB (Mf h.n x AQ) ?_;rintro ⟨y1,y2⟩ z;refine tD (λ _=>tI (by rcases z with z | z<;>omega) λ _ _ _=>tS AU) λ _=>tS AR
   refine tD (λ h0=>tI (by have:=HC.hm;omega) λ _ _ _=>tB (Q _ (by simpa using o)) ?_) λ _=>tB (Q _ o) ?_;all_goals
     rintro ⟨x,j⟩ hx;exact tS ⟨⟨⟨hx,by dsimp only;rw[List.length_append];simp only[List.length_cons,List.length_nil];omega,Es q HC.rl⟩,AR,AR⟩,AR⟩
 . rintro ⟨us,V,_⟩ ⟨o,R,q⟩;dsimp only at R;refine tB (P:=λ r=>r.1.length=S) (tL (λ s=>s.1.length=S/\0<=s.2/\s.2<=(S:Int)) (λ s=>((S:Int) - s.2).toNat) ⟨o,AR,AR⟩ ?_) ?_
   . rintro ⟨v,i⟩ ⟨a,p2,p3⟩;refine tD (λ Dv=>tB (P:=λ r=>r.1.length=S) (tL (λ s=>s.1.length=S/\0<=s.2/\s.2<=(T:Int)) (λ s=>((T:Int) - s.2).toNat) ⟨a,AR,AR⟩ ?_) ?_) λ _=>tS a
     . rintro ⟨v,j⟩ ⟨I,r2,r3⟩;dsimp only at I;refine tD (λ So=>?_) λ _=>tS I;rw[C2 (n:=j+1) AQ AQ];refine tI AQ λ _ _ _=>tC (λ _=>tS AU) λ _=>tI AQ λ t _ _=>tB (ZQ t i) λ _ _=>tS AU
     . rintro ⟨v,j⟩ I;rw[C2 (n:=i+1) AQ AQ];exact tS AR
   . rintro ⟨v,_⟩ a;refine tB (Ak6 h.n ⟨c,b,p⟩ m h.k V v AQ q a) λ f hf=>tC (λ W=>?_) λ _=>tS ⟨m,AR⟩;have EH:=hf W;have K:0<p.length:=Co.2 EH;refine tI AQ λ x hx H=>?_;have Kl:=m.pr x H;have hd:=h.Bd8 ⟨c,b,p⟩ m;refine tB (Agq (hd.Aml e) x AQ) λ g _=>tC (λ _=>tB (Q6 _ x (-1) m AQ) λ s N=>tB (Ft _ 7 x (-1) AS) λ e2 w=>tS ?_) λ _=>tS ⟨m,AR⟩;have y:=w.2;dsimp only at y;have Ca0:=filter_lt (x:=x) (l:=p) (by simpa using hx);have QZ:=N.2;dsimp only at QZ;exact ⟨⟨N.1,by dsimp only;rw[QZ];omega⟩,by dsimp only;rw[QZ];exact Ca0⟩
theorem DK.re{C B S U T}{d}(h:DK C B S U T d)(g)(f)(e)(p)(l s):DK C B S U T {d with C7:=g,DV:=f,CP:=e,FG:=p,DO:=l,DD:=s}:=⟨h.n,h.k,h.s,h.ul,h.uo,h.tl,h.t32,h.to⟩
theorem DW.re{C B S U T}{d}(h:DW C B S U T d)(g)(f)(e)(p)(l s):DW C B S U T {d with C7:=g,DV:=f,CP:=e,FG:=p,DO:=l,DD:=s}:=⟨h.k.re g f e p l s,h.o,h.t⟩
theorem Au2{C B S U T}{d}(h:DW C B S U T d)(he:d.CP.length<=50000):DT (OI d) (λ r=>r.1.length=U/\DW C B S U T {d with CQ:=r.2.1,CR:=r.2.2.1,CO:=r.2.2.2.1,CP:=r.2.2.2.2}/\r.2.1=d.CQ/\r.2.2.2.1.map core=d.CO.map core/\r.2.2.2.2.length<=d.CP.length+16):=by
 have OY:=h.k.ul;have h8:=h.k.k.u8
 have Ut:d.CV.length=S:=h.k.n.ns;unfold OI;refine tB (P:=λ r=>r.1.length=U/\∀x∈r.1,-1<=x/\x<(S:Int)) (tL (λ s=>(s.1.length:Int)=s.2/\(∀x∈s.1,-1<=x/\x<(S:Int))/\0<=s.2/\s.2<=(U:Int)) (λ s=>((U:Int) - s.2).toNat) ⟨AT,all_nil,AR,AR⟩ ?_) ?_
 . rintro ⟨v,i⟩ ⟨m,a,w,y⟩;dsimp only at m;refine tD (λ Dv=>?_) λ _=>tS ⟨AR,a⟩;rw[C2 (n:=i+1) AQ AQ];refine tI AQ λ u j UY=>tD (λ _=>tT (Y6 u) (tB (Abk h.k.n _ (h.k.uo u UY).last.2) λ x hx=>tG AQ λ _=>tS ⟨⟨?_,Es a hx,AR,AR⟩,AR⟩)) λ _=>tG AQ λ _=>tS ⟨⟨?_,Es a AQ,AR,AR⟩,AR⟩;all_goals (dsimp only;rw[List.length_append];simp only[List.length_cons,List.length_nil];omega)
 rintro ⟨ins,_⟩ ⟨m1,m2⟩;dsimp only at m1;refine tB (Aj7 h.k) λ sh N=>tB (Ajo _ AQ) ?_;rintro _ rfl;have I:∀x∈d.CO.map (λ u=>if u.state=0∨u.state=1 then u.Ev else -2),-2<=x/\x<(S:Int):=by
   intro x hx;obtain ⟨u,j,rfl⟩:=BR.1 hx;have:=(h.k.uo u j).hm;split<;>omega
 refine tB (Ar8 h.k.n sh _ ins N AW AW m2 I) λ l hl=>?_;have K:l.length=U:=by rw[hl.1];simpa using OY
 refine tG AQ λ _=>?_;refine tB (P:=λ r=>r.2.2.1.length=U/\DW C B S U T {d with CQ:=r.2.2.2.1,CR:=r.2.2.2.2.1,CO:=r.1,CP:=r.2.1}/\r.2.2.2.1=d.CQ/\r.1.map core=d.CO.map core/\r.2.1.length<=d.CP.length+16) (tL (λ s=>s.2.2.1.length=U/\DW C B S U T {d with CQ:=s.2.2.2.1,CR:=s.2.2.2.2.1,CO:=s.1,CP:=s.2.1}/\s.2.2.2.1=d.CQ/\s.1.map core=d.CO.map core/\(s.2.1.length:Int)<=d.CP.length+2*s.2.2.2.2.2/\0<=s.2.2.2.2.2/\s.2.2.2.2.2<=(U:Int)) (λ s=>((U:Int) - s.2.2.2.2.2).toNat) ⟨by simpa using K,h,rfl,rfl,AR,AR,AR⟩ ?_) (λ ⟨Z,x2,g,x4,x5,x6⟩ I=>tS I);rintro ⟨b,e,mv,o,q,i⟩ ⟨m,a,w,y,k5,k6,k7⟩;dsimp only at*;have a0:b.length=U:=a.k.ul;refine tD (λ Dv=>?_) λ _=>tS ⟨m,a,w,y,AR⟩;rw[C2 (n:=i+1) AQ AQ];have stay:(mv.length=U/\DW C B S U T {d with CQ:=o,CR:=q,CO:=b,CP:=e}/\o=d.CQ/\b.map core=d.CO.map core/\(e.length:Int)<=d.CP.length+2*(i+1)/\0<=i+1/\i+1<=(U:Int))/\((U:Int) - (i+1)).toNat<((U:Int) - i).toNat:=⟨⟨m,a,w,y,AQ,AQ,AQ⟩,AQ⟩;refine tI AQ λ u j UY=>tB (KN u) λ f _=>tC (λ _=>tI AQ λ x hx Y=>tD (λ _=>tS stay) λ _=>?_) λ _=>tS stay;have Kl:=hl.2 x Y;have HC:=a.k.uo u UY;refine tI AQ λ _ _ _=>tB (Ft _ 19 i x AS) λ e2 E=>tJ AQ ?_;have H:=E.2;dsimp only at H;have hv:VM C S T {u with Ev:=x}:=⟨Kl,HC.ce,HC.tt,HC.tk,HC.rt,HC.rl,HC.ac⟩;have kd:DW C B S U T {d with CQ:=o,CR:=q,CO:=b.set i.toNat {u with Ev:=x},CP:=e2}:=⟨(a.k.N8 i.toNat _ hv).Aml e2,a.o.core (D3 j rfl),a.t.core (D3 j rfl)⟩;have p:(b.set i.toNat {u with Ev:=x}).map core=b.map core:=D3 j rfl;refine tD (λ _=>tB (Aln kd i AQ AS) ?_) λ _=>tS ⟨⟨by dsimp only;rw[List.length_set];exact m,kd,w,p.trans y,AS,AR,AR⟩,AR⟩;rintro ⟨Z,x2,g,x4⟩ ⟨⟨z,q2,q3,q4⟩,q5⟩;dsimp only at q4;have W:g.length=b.length:=by have:g.length=U:=z.k.ul;omega
 refine tG W λ _=>tI AQ λ v Q R=>?_;have V:=z.k.uo v R;have fin:∀rt:Aa,(∀c∈rt,0<=c/\c<(C:Int))->rt.length<=1000->((mv.set i.toNat true).length=U/\DW C B S U T {d with CQ:=Z,CR:=x2,CO:=g.set i.toNat {v with De:=rt},CP:=x4}/\Z=d.CQ/\(g.set i.toNat {v with De:=rt}).map core=d.CO.map core/\(x4.length:Int)<=d.CP.length+2*(i+1)/\0<=i+1/\i+1<=(U:Int))/\((U:Int) - (i+1)).toNat<((U:Int) - i).toNat:=by
   intro rt h1 h2;have XS:(g.set i.toNat {v with De:=rt}).map core=g.map core:=D3 Q rfl;exact ⟨⟨by rw[Bv];exact m,⟨z.k.N8 i.toNat _ (V.same _ rfl rfl rfl rfl rfl h1 h2),z.o.core XS,z.t.core XS⟩,q2.trans w,XS.trans (q5.trans (p.trans y)),AQ,AQ,AQ⟩,AQ⟩
 refine tD (λ h0=>tI AQ λ s _ hs=>tJ AQ ?_) λ _=>tS (fin [] all_nil AT);simp only[Cr];have:=h.k.n.sp s hs;exact tS (fin [s.base] (ND AQ) AT)
def Sw(a:DX)(st:Aa)(c:Ad)(b p:Aa)(g:Ag)(f:Ao)(e:Ak)(o:Aa)(q:Ab):DX:={a with CQ:=o,CR:=q,closed:=c,Dp:=b,C0:=p,CO:=g,CS:=f,C7:=false,CP:=e,DD:=st}
theorem Ann{C B S U T}{a}{st}{c}{b p}{j}{w}{e}{o}{q}(h:DW C B S U T (Sw a st c b p j w e o q))(z:e.length<=50000):DT (C9 (L9 a st c b p) (j,w,e,o,q,0)) (λ r=>DW C B S U T (Sw a st c b p r.1 r.2.1 r.2.2.1 r.2.2.2.1 r.2.2.2.2.1)/\Mo r.1=Mo j/\r.2.2.1.length<=e.length+128):=by
 have R8:=h.k.t32;refine tL (λ s=>DW C B S U T (Sw a st c b p s.1 s.2.1 s.2.2.1 s.2.2.2.1 s.2.2.2.2.1)/\Mo s.1=Mo j/\(s.2.2.1.length:Int)<=e.length+4*s.2.2.2.2.2/\0<=s.2.2.2.2.2/\s.2.2.2.2.2<=(T:Int)) (λ s=>((T:Int) - s.2.2.2.2.2).toNat) ⟨h,rfl,AR,AR,AR⟩ ?_;rintro ⟨Ka,m,y,K,N,i⟩ ⟨g,l,E,H,I⟩;dsimp only at*;have R6:m.length=T:=g.k.tl;refine tD (λ Dv=>?_) λ _=>tS ⟨g,l,AR⟩;rw[C2 (n:=i+1) AQ AQ];refine tB (Af3 g.k i AQ) λ f _=>tC (λ _=>tB (Aqb g i 5 5 AQ AQ (by unfold Sw;dsimp only;omega)) ?_) λ _=>tS ⟨⟨g,l,AR,AR,AR⟩,AR⟩;rintro ⟨V,W,Y,Z,x5⟩ ⟨t,x,u,Q,R,v⟩;unfold Sw at t x u v;dsimp only at v;exact tS ⟨⟨t,u.trans l,AS,AR,AR⟩,AR⟩
theorem Ano{C B S U T}{a}{st}{c}{b p}{R}{f}{e}{o}{q}(mv)(hm:mv.length=U)(h:DW C B S U T (Sw a st c b p R f e o q))(he:e.length<=50000):DT (C9 (Ma a st c b p mv f) (R,e,o,q,0)) (λ r=>DW C B S U T (Sw a st c b p r.1 f r.2.1 r.2.2.1 r.2.2.2.1)/\Mo r.1=Mo R/\r.2.1.length<=e.length+24):=by
 have h8:=h.k.k.u8;refine tL (λ s=>DW C B S U T (Sw a st c b p s.1 f s.2.1 s.2.2.1 s.2.2.2.1)/\Mo s.1=Mo R/\(s.2.1.length:Int)<=e.length+3*s.2.2.2.2/\0<=s.2.2.2.2/\s.2.2.2.2<=(U:Int)) (λ s=>((U:Int) - s.2.2.2.2).toNat) ⟨h,rfl,AR,AR,AR⟩ ?_;rintro ⟨Ka,y,I,K,i⟩ ⟨E,Y,k3,k4,k5⟩;dsimp only at*;have OY:Ka.length=U:=E.k.ul;refine tD (λ Dv=>?_) λ _=>tS ⟨E,Y,AR⟩;rw[C2 (n:=i+1) AQ AQ];have stay:(DW C B S U T (Sw a st c b p Ka f y I K)/\Mo Ka=Mo R/\(y.length:Int)<=e.length+3*(i+1)/\0<=i+1/\i+1<=(U:Int))/\((U:Int) - (i+1)).toNat<((U:Int) - i).toNat:=⟨⟨E,Y,AQ,AQ,AQ⟩,AQ⟩;refine tI AQ λ u V UY=>tD (λ W=>?_) λ _=>tS stay;have HC:=E.k.uo u UY;have a0:(Sw a st c b p Ka f y I K).CP.length=y.length:=rfl;have Q:u.Dx=1∨u.Dx=2->DT (Ms (Sw a st c b p Ka f y I K) u) (λ g=>0<=g/\g<(S:Int)):=λ z=>tW (Zt E.k u HC) λ g N=>⟨N.2.2 z (E.t.c _ u V W z),N.2.1⟩;have Bo4:∀g:Int,0<=g/\g<(S:Int)->DT (GM (Sw a st c b p Ka f y I K) i g) (W4 C B S U T (Sw a st c b p Ka f y I K) 2):=λ g N=>Aq4 E i g u AQ V W N AQ;have Ev:u.Dx=3->DT (Gi (Sw a st c b p Ka f y I K) i) (W4 C B S U T (Sw a st c b p Ka f y I K) 3):=λ z=>Au0 E i u AQ V W (Int.not_le.1 λ j=>by have:=(E.t.b _ u V j).2.1;omega) AQ;have H:=Aqh E.k u HC;have fin:∀w x l v,W4 C B S U T (Sw a st c b p Ka f y I K) 3 (w,x,l,v)->(DW C B S U T (Sw a st c b p l f v w x)/\Mo l=Mo R/\(v.length:Int)<=e.length+3*(i+1)/\0<=i+1/\i+1<=(U:Int))/\((U:Int) - (i+1)).toNat<((U:Int) - i).toNat:=by
   rintro w x l v ⟨Z,q2,q3,q4⟩;unfold Sw at Z q2 q3;dsimp only at q4;exact ⟨⟨Z,q3.trans Y,AQ,AQ,AQ⟩,AQ⟩
 have Bkk:∀w x l v,W4 C B S U T (Sw a st c b p Ka f y I K) 2 (w,x,l,v)->(DW C B S U T (Sw a st c b p l f v w x)/\Mo l=Mo R/\(v.length:Int)<=e.length+3*(i+1)/\0<=i+1/\i+1<=(U:Int))/\((U:Int) - (i+1)).toNat<((U:Int) - i).toNat:=λ w x l v j=>fin w x l v ⟨j.1,j.2.1,j.2.2.1,by have:=j.2.2.2;omega⟩;unfold Sw at Q Bo4 Ev H;refine tD (λ z=>tI AQ λ m _ _=>tC (λ _=>tB (Ev z) ?_) λ _=>tB H λ s _=>tC (λ _=>tB (Ev z) ?_) λ _=>tD (λ h=>AQ) λ _=>tD (λ h=>AQ) λ _=>tS stay) λ _=>tD (λ z=>tB H λ s _=>tC (λ _=>tB (Q (Or.inl z)) λ g N=>tB (Bo4 g N) ?_) λ _=>tS stay) λ _=>tD (λ z=>tB H λ s _=>tC (λ _=>tB (Q (Or.inr z)) λ g N=>tB (Bo4 g N) ?_) λ _=>tS stay) λ _=>tS stay
 . rintro ⟨w,x,l,v⟩ j;exact tS (fin _ _ _ _ j)
 . rintro ⟨w,x,l,v⟩ j;exact tS (fin _ _ _ _ j)
 . rintro ⟨w,x,l,v⟩ j;exact tS (Bkk _ _ _ _ j)
 . rintro ⟨w,x,l,v⟩ j;exact tS (Bkk _ _ _ _ j)
theorem Ahe{C B S U T}{a}{st}{c}{b p}{g}{i}{e}{o}{q}(h:DW C B S U T (Sw a st c b p g i e o q))(he:e.length<=10000)(Ly:st.length<=1000)(a0:∀x∈st,0<=x/\x<(U:Int)){σ:Type}(stop:Aa->Ab->Ag->Ao->Ak->σ)(v:Ag->Ao->Ak->Aa->Ad->Aa->Aa->Aa->Ab->σ)(Q:σ->Prop)
   (Y:∀o q Ka ts' f,DW C B S U T (Sw a st c b p Ka ts' f o q)->Mo Ka=Mo g->f.length<=e.length+200->Q (stop o q Ka ts' f))
   (h2:∀o q Ka ts' f l u t K,DW C B S U T (Sw a (st++l) u t K Ka ts' f o q)->act Ka<act g->f.length<=e.length+700->l.length<=8->(∀x∈l,0<=x/\x<(U:Int))->Q (v Ka ts' f (st++l) u t K o q)):
   DT (Option.bind (OI (Sw a st c b p g i e o q)) λ x=>Option.bind (C9 (L9 a st c b p) (x.2.2.2.1,i,x.2.2.2.2,x.2.1,x.2.2.1,0)) λ y=>Option.bind (C9 (Ma a st c b p x.1 y.2.1) (y.1,y.2.2.1,y.2.2.2.1,y.2.2.2.2.1,0)) λ z=>Option.bind (Iq (Sw a st c b p z.1 y.2.1 z.2.1 z.2.2.1 z.2.2.2.1)) λ w=>cond (decide (((w.length:Nat):Int)=0)) (some (stop z.2.2.1 z.2.2.2.1 z.1 y.2.1 z.2.1)) (Option.bind (Pr (Sw a st c b p z.1 y.2.1 z.2.1 z.2.2.1 z.2.2.2.1) w) λ s=>cond (decide (st.length+w.length<10000000)) (some (v s.2.2.2.2.2.1 s.2.2.2.2.2.2.1 s.2.2.2.2.2.2.2 (st++w) s.2.2.1 s.2.2.2.1 s.2.2.2.2.1 s.1 s.2.1)) none)) Q:=by
 refine tB (Au2 h (by unfold Sw;dsimp only;omega)) ?_;rintro ⟨mv,o1,q1,n,W⟩ ⟨k1,H,k3,k4,I⟩;unfold Sw at H I;dsimp only at I ⊢;have Sr:DW C B S U T (Sw a st c b p n i W o1 q1):=H;refine tB (Ann Sr AQ) ?_;rintro ⟨a2,a1,e2,o2,q2,_⟩ ⟨m1,m2,m3⟩;dsimp only at m3 ⊢;refine tB (Ano mv k1 m1 AQ) ?_;rintro ⟨r,e3,o3,q3,_⟩ ⟨m,n2,n3⟩;dsimp only at n3 ⊢;have E:Mo r=Mo g:=by rw[n2,m2];exact J1 k4
 refine tB (VJ m.k) λ w j=>tD (λ _=>tS (Y _ _ _ _ _ m E AQ)) λ EH=>?_;have h8:=h.k.k.u8;refine tB (Aj5 m w AQ (λ x hx=>by have:=j.2 x hx;omega) (by unfold Sw;dsimp only;omega)) ?_;rintro ⟨x1,x2,x3,x4,x5,x6,x7,x8⟩ ⟨N,R,r3,V⟩;unfold Arb Sw at N;unfold Sw at R r3 V;dsimp only at R ⊢;have Dv:=V (by intro Z;apply EH;rw[Z];rfl) (λ x hx=>(j.2 x hx).2.2);rw[Avy E] at Dv;refine tG AQ λ _=>tS (h2 _ _ _ _ _ w _ _ _ ?_ Dv AQ AQ (λ x hx=>by have:=j.2 x hx;omega));exact N.re false a.DV _ a.FG a.DO (st++w)
def Aum(C B S U T:Nat)(d:DX)(r:Aa×Ab×Ad×Aa×Aa×Ag×Ao×Bool×Ak×Aa):Prop:=
 DW C B S U T {d with CQ:=r.1,CR:=r.2.1,closed:=r.2.2.1,Dp:=r.2.2.2.1,C0:=r.2.2.2.2.1,CO:=r.2.2.2.2.2.1,CS:=r.2.2.2.2.2.2.1,C7:=r.2.2.2.2.2.2.2.1,CP:=r.2.2.2.2.2.2.2.2.1,DD:=r.2.2.2.2.2.2.2.2.2}/\r.2.2.2.2.2.2.2.2.1.length<=d.CP.length+8000/\r.2.2.2.2.2.2.2.2.2.length<=200/\∀x∈r.2.2.2.2.2.2.2.2.2,0<=x/\x<(U:Int)
theorem Bpw(us):act us<=us.length:=List.length_filter_le _ _
theorem Aab{C B S U T}{d}(h:DW C B S U T d)(he:d.CP.length<=1000)(Ly:d.DD.length<=100)(H:∀x∈d.DD,0<=x/\x<(U:Int)):DT (HG d) (Aum C B S U T d):=by
 have h8:=h.k.k.u8;have OY:=h.k.ul
 have Bt9:=Bpw d.CO;unfold HG;refine tB (P:=Aum C B S U T d) (tL (λ s=>DW C B S U T {d with CQ:=s.2.2.2.2.2.2.2.2.1,CR:=s.2.2.2.2.2.2.2.2.2,closed:=s.2.2.2.2.1,Dp:=s.2.2.2.2.2.1,C0:=s.2.2.2.2.2.2.1,CO:=s.1,CS:=s.2.1,C7:=s.2.2.2.2.2.2.2.1,CP:=s.2.2.1,DD:=s.2.2.2.1}/\s.2.2.1.length+800*act s.1<=d.CP.length+800*act d.CO/\s.2.2.2.1.length+8*act s.1<=d.DD.length+8*act d.CO/\(∀x∈s.2.2.2.1,0<=x/\x<(U:Int))) (λ s=>act s.1) ⟨h,AS,AS,H⟩ ?_) (λ r V=>tS V);rintro ⟨E,Z,e,i,c,b,p,g,o,q⟩ ⟨z,k2,k3,y⟩;dsimp only at*;refine tB (Atz z.k) λ so _=>tC (λ _=>?_) λ _=>tC (λ _=>tS ⟨z.re true d.DV e d.FG d.DO i,AS,AS,y⟩) λ _=>tB (Ft _ 13 1 0 AS) λ j t=>tS ?_;rotate_left
 . have u:=t.2;dsimp only at u;exact ⟨z.re true d.DV j d.FG d.DO i,AS,AS,y⟩
 have key:∀j:Ak,j.length<=e.length+1->DW C B S U T (Sw d i c b p E Z j o q)/\(∀o q Ka a f,DW C B S U T (Sw d i c b p Ka a f o q)->Mo Ka=Mo E->f.length<=j.length+200->Aum C B S U T d (o,q,c,b,p,Ka,a,false,f,i))/\(∀o q Ka a f l n m v,DW C B S U T (Sw d (i++l) n m v Ka a f o q)->act Ka<act E->f.length<=j.length+700->l.length<=8->(∀x∈l,0<=x/\x<(U:Int))->(DW C B S U T {d with CQ:=o,CR:=q,closed:=n,Dp:=m,C0:=v,CO:=Ka,CS:=a,C7:=false,CP:=f,DD:=i++l}/\f.length+800*act Ka<=d.CP.length+800*act d.CO/\(i++l).length+8*act Ka<=d.DD.length+8*act d.CO/\(∀x∈i++l,0<=x/\x<(U:Int)))/\act Ka<act E):=by
   intro j h2;refine ⟨z.re false d.DV j d.FG d.DO i,λ o q Ka a f I R W=>⟨I,AS,AS,y⟩,λ o q Ka a f l n m v I R W r4 Y=>⟨⟨I,?_,?_,Pw y Y⟩,R⟩⟩
   . omega
   . rw[Bw];omega
 refine tC (λ _=>tB (Ft _ 13 0 0 AS) λ j t=>?_) λ _=>?_
 . have u:=t.2;dsimp only at u;obtain ⟨K,N,Q⟩:=key j AQ;exact Ahe K AQ AQ y (λ o q Ka a f=>Sum.inr (o,q,c,b,p,Ka,a,false,f,i)) (λ Ka a f w n m v o q=>Sum.inl (Ka,a,f,w,n,m,v,false,o,q)) _ N Q
 . obtain ⟨K,N,Q⟩:=key e AQ;exact Ahe K AQ AQ y (λ o q Ka a f=>Sum.inr (o,q,c,b,p,Ka,a,false,f,i)) (λ Ka a f w n m v o q=>Sum.inl (Ka,a,f,w,n,m,v,false,o,q)) _ N Q
theorem Als{C B S U T}{d}(h:DW C B S U T d)(he:d.CP.length<=50000):DT (OJ d) (λ r=>W4 C B S U T d 16 r/\r.2.2.1.map core=d.CO.map core):=by
 have h8:=h.k.k.u8;have N:d.blocks.length=B:=h.k.n.nb;unfold OJ;refine tB (P:=λ e=>DW C B S U T {d with CQ:=e.2.2.1,CR:=e.2.2.2.1,CO:=e.1,CP:=e.2.1}/\e.2.2.1=d.CQ/\e.1.map core=d.CO.map core/\e.2.1.length<=d.CP.length+16) (tL (λ s=>DW C B S U T {d with CQ:=s.2.2.1,CR:=s.2.2.2.1,CO:=s.1,CP:=s.2.1}/\s.2.2.1=d.CQ/\s.1.map core=d.CO.map core/\(s.2.1.length:Int)<=d.CP.length+2*s.2.2.2.2/\0<=s.2.2.2.2/\s.2.2.2.2<=(U:Int)) (λ s=>((U:Int) - s.2.2.2.2).toNat) ⟨h,rfl,rfl,AR,AR,AR⟩ ?_) (λ ⟨Y,Z,j,x4,x5⟩ b=>tS ⟨⟨b.1,b.2.1,J1 b.2.2.1,b.2.2.2⟩,b.2.2.1⟩);rintro ⟨l,e,o,q,i⟩ ⟨a,z,E,k4,k5,k6⟩;dsimp only at*;have OY:l.length=U:=a.k.ul;refine tD (λ Dv=>?_) λ _=>tS ⟨a,z,E,AR⟩;rw[C2 (n:=i+1) AQ AQ];have stay:(DW C B S U T {d with CQ:=o,CR:=q,CO:=l,CP:=e}/\o=d.CQ/\l.map core=d.CO.map core/\(e.length:Int)<=d.CP.length+2*(i+1)/\0<=i+1/\i+1<=(U:Int))/\((U:Int) - (i+1)).toNat<((U:Int) - i).toNat:=⟨⟨a,z,E,AQ,AQ,AQ⟩,AQ⟩;refine tI AQ λ u hu UY=>tB (LS a.k.k i) λ w _=>tD (λ _=>tD (λ _=>tS stay) λ _=>tD (λ _=>tS stay) λ _=>tD (λ _=>tS stay) λ _=>tD (λ _=>tS stay) λ _=>tD (λ _=>tS stay) λ _=>tD (λ _=>tS stay) λ _=>?_) λ _=>tS stay;refine tB (Zt a.k u (a.k.uo u UY)) λ g hg=>tD (λ _=>tS stay) λ _=>tB (Auu h.k.n d.sg h.k.s a.k.k u.cell w g AQ AQ) ?_;rintro ⟨H,ok⟩ ⟨KI,JH⟩;refine tC (λ _=>tB (Aln a i AQ AS) ?_) λ _=>tS stay;rintro ⟨Y,Z,j,x4⟩ ⟨⟨f,R,q3,V⟩,W⟩;dsimp only at V;have y:j.length=l.length:=by have:j.length=U:=f.k.ul;omega
 refine tB (Ft _ 12 i 0 AS) λ I m=>tG y λ _=>tI AQ λ v Q p=>tJ AQ (tS ?_);have K:=m.2;simp only[Cr];have x:=f.k.uo v p;have XS:∀w:Int,(j.set i.toNat {v with De:=H,EI:=w}).map core=j.map core:=λ w=>D3 Q rfl;exact ⟨⟨⟨(f.k.N8 i.toNat {v with De:=H,EI:=_} (x.same _ rfl rfl rfl rfl rfl JH AR)).Aml I,f.o.core (XS _),f.t.core (XS _)⟩,R.trans z,(XS _).trans (W.trans E),AR,AR,AR⟩,AR⟩
theorem Alm{C B S U T}{d}(h:DW C B S U T d)(W:d.CP.length<=50000):DT (OG d) (λ r=>W4 C B S U T d 8 r/\r.2.2.1.map core=d.CO.map core):=by
 have V:=h.k.k.u8;unfold OG;refine tB (P:=λ e=>DW C B S U T {d with CQ:=e.2.2.1,CR:=e.2.2.2.1,CO:=e.1,CP:=e.2.1}/\e.2.2.1=d.CQ/\e.1.map core=d.CO.map core/\e.2.1.length<=d.CP.length+8) (tL (λ s=>DW C B S U T {d with CQ:=s.2.2.1,CR:=s.2.2.2.1,CO:=s.1,CP:=s.2.1}/\s.2.2.1=d.CQ/\s.1.map core=d.CO.map core/\(s.2.1.length:Int)<=d.CP.length+s.2.2.2.2/\0<=s.2.2.2.2/\s.2.2.2.2<=(U:Int)) (λ s=>((U:Int) - s.2.2.2.2).toNat) ⟨h,rfl,rfl,AR,AR,AR⟩ ?_) (λ ⟨x1,x2,x3,x4,x5⟩ j=>tS ⟨⟨j.1,j.2.1,J1 j.2.2.1,j.2.2.2⟩,j.2.2.1⟩);rintro ⟨m,e,o,q,i⟩ ⟨a,I,K,Y,Z,k6⟩;dsimp only at*;have OY:m.length=U:=a.k.ul;refine tD (λ Dv=>?_) λ _=>tS ⟨a,I,K,AR⟩;rw[C2 (n:=i+1) AQ AQ];have stay:(DW C B S U T {d with CQ:=o,CR:=q,CO:=m,CP:=e}/\o=d.CQ/\m.map core=d.CO.map core/\(e.length:Int)<=d.CP.length+(i+1)/\0<=i+1/\i+1<=(U:Int))/\((U:Int) - (i+1)).toNat<((U:Int) - i).toNat:=⟨⟨a,I,K,AQ,AQ,AQ⟩,AQ⟩;refine tI AQ λ u N UY=>tB (KN u) λ f _=>tC (λ _=>tD (λ _=>tC (λ _=>tS stay) λ _=>tD (λ _=>tS stay) λ EH=>tB (LS a.k.k i) λ w _=>tD (λ _=>tS stay) λ _=>tI AQ λ x _ hx=>?_) λ _=>tS stay) λ _=>tS stay;have HC:=a.k.uo u UY;refine tB (Arx a.k.k i x AQ (HC.rt x hx)) ?_;rintro ⟨l,R⟩ z;rcases z with z | ⟨E,b,H⟩
 . exact tD (λ e=>absurd e z) λ _=>tS stay
 refine tD (λ _=>tB (Ft _ 9 i x AS) λ Q v=>tS ?_) λ e=>absurd E e;have y:=v.2;dsimp only at y;have p:(m.set i.toNat {u with DH:=false,wait:=0}).map core=m.map core:=D3 N rfl;have g:=(a.k.N8 i.toNat {u with DH:=false,wait:=0} (HC.same _ rfl rfl rfl rfl rfl HC.rt HC.rl));exact ⟨⟨⟨⟨g.n,by dsimp only;rw[b];exact H,g.s,g.ul,g.uo,g.tl,g.t32,g.to⟩,by dsimp only;rw[b];exact a.o.core p,a.t.core p⟩,b.trans I,p.trans K,AS,AR,AR⟩,AR⟩
def Pj(t:Tsk):Int×Int×Int×Int:=(t.pick,t.drop,t.state,t.CZ)
theorem YV{e ts':Ao}(h:ts'.map Pj=e.map Pj){i:Nat}{a}(f:ts'[i]?=some a):∃t,e[i]?=some t/\t.pick=a.pick/\t.drop=a.drop/\t.state=a.state/\t.CZ=a.CZ:=by
 have b:(ts'.map Pj)[i]?=some (Pj a):=by rw[BC,f];rfl
 rw[h,BC] at b;cases hx:e[i]? with
 | none=>rw[hx] at b;cases b
 | some u=>rw[hx] at b;have:=Bf b;unfold Pj at this;simp only[Ci] at this;exact ⟨u,rfl,this⟩
theorem TL.Pj{n}{m ts'}(h:TL n m)(e:ts'.map Pj=m.map Pj):TL n ts':=by
 refine ⟨λ j t f y=>?_,λ i u r p=>?_,h.c,h.d⟩
 . obtain ⟨v,k,_,_,o,l⟩:=YV e f;rw[<-l];exact h.a j v k AQ
 . obtain ⟨q,h2,t,f,w,x⟩:=h.b i u r p;obtain ⟨s,g,_,_,o,l⟩:=YV e.symm f;exact ⟨q,h2,s,g,AQ,AQ⟩
theorem TL.begin{p}{o}(h:TL p o){j i:Nat}{t}{u}(v:o[j]?=some t)(h0:t.state=0)(l:p[i]?=some u)(s:u.state=1)(h2:u.DY<0):TL (p.set i {u with DY:=(j:Int),Dx:=1}) (o.set j {t with state:=1,CZ:=(i:Int)}):=by
 refine ⟨λ k x hx I6=>?_,λ k x hx f=>?_,λ k x hx g Tv=>?_,λ k x hx f=>?_⟩
 . rcases ER hx with ⟨rfl,rfl⟩ | ⟨EH,hx⟩
   . exact ⟨{u with DY:=(j:Int),Dx:=1},by dsimp only;rw[Be];exact gs (Fq l),s,rfl⟩
   . obtain ⟨w,m,q,r⟩:=h.a k x hx I6;refine ⟨w,?_,q,r⟩;rw[IT];exact m;intro e;rw[<-e,l] at m;cases m;omega
 . rcases ER hx with ⟨rfl,rfl⟩ | ⟨EH,hx⟩
   . exact ⟨s,Or.inl rfl,{t with state:=1,CZ:=(i:Int)},by dsimp only;rw[Be];exact gs (Fq v),rfl,Or.inl rfl⟩
   . obtain ⟨q,r,y,n,z,B⟩:=h.b k x hx f;refine ⟨q,r,y,?_,z,B⟩;rw[IT];exact n;intro e;rw[<-e,v] at n;cases n;omega
 . rcases ER hx with ⟨rfl,rfl⟩ | ⟨EH,hx⟩
   . dsimp only;omega
   . exact h.c k x hx g Tv
 . rcases ER hx with ⟨rfl,rfl⟩ | ⟨EH,hx⟩
   . exact h.d i u l f
   . exact h.d k x hx f
def qd(a:Ao):Nat:=(a.filter (λ t=>t.state==0)).length
theorem Bji{a ts'}(h:ts'.map Pj=a.map Pj):qd ts'=qd a:=by
 have:∀a:Ao,qd a=((a.map Pj).filter (λ c=>c.2.2.1==0)).length:=by
   intro a;unfold qd;rw[List.filter_map,Cs];rfl
 rw[this,this,h]
theorem Bo8{e}{i}{u v}(b:e[i]?=some u)(j:u.state=0)(h2:v.state≠0):qd (e.set i v)+1=qd e:=by
 induction e generalizing i with
 | nil=>simp at b
 | cons a l k=>
   cases i with
   | zero=>
     simp only[BF,Bo] at b;subst b;have f:(a.state==0)=true:=by simp[j]
     have g:(v.state==0)=false:=by simp[h2]
     simp[qd,Cm,f,g]
   | succ i=>
     have:=k b;unfold qd at this ⊢;simp only[BQ,Cm];split
     . simp only[Br];omega
     . exact this
theorem Aq3{C B S U T}{d}(h:DW C B S U T d)(he:d.CP.length<=50000):DT (QO d) (λ r=>DW C B S U T {d with CQ:=r.1,CR:=r.2.1,CO:=r.2.2.1,CS:=r.2.2.2.1,CP:=r.2.2.2.2}/\r.1=d.CQ/\Mo r.2.2.1=Mo d.CO/\r.2.2.2.2.length<=d.CP.length+96):=by
 have h8:=h.k.k.u8;have R8:=h.k.t32
 have a6:qd d.CS<=T:=by have:qd d.CS<=d.CS.length:=List.length_filter_le _ _;have:=h.k.tl;omega
 unfold QO;refine tB (P:=λ r=>DW C B S U T {d with CQ:=r.1,CR:=r.2.1,CO:=r.2.2.1,CS:=r.2.2.2.1,CP:=r.2.2.2.2}/\r.1=d.CQ/\Mo r.2.2.1=Mo d.CO/\r.2.2.2.2.length<=d.CP.length+96) (tL (λ s=>DW C B S U T {d with CQ:=s.2.2.2.1,CR:=s.2.2.2.2,CO:=s.1,CS:=s.2.2.1,CP:=s.2.1}/\s.2.2.2.1=d.CQ/\Mo s.1=Mo d.CO/\s.2.1.length+3*qd s.2.2.1<=d.CP.length+3*qd d.CS) (λ s=>qd s.2.2.1) ⟨h,rfl,rfl,Bk _⟩ ?_) (λ r I=>tS I);rintro ⟨E,e,l,o,q⟩ ⟨a,K,N,k4⟩;dsimp only at k4;have OY:E.length=U:=a.k.ul;have R6:l.length=T:=a.k.tl;refine tB (T3 a.k (-1) AQ) ?_;rintro ⟨x1,x2⟩ _;refine tC (λ _=>?_) λ _=>tS ⟨a,K,N,AR⟩;refine tB (P:=λ e=>e.1.length=T) (tL (λ s=>(s.1.length:Int)=s.2/\0<=s.2/\s.2<=(T:Int)) (λ s=>((T:Int) - s.2).toNat) ⟨AT,AR,AR⟩ ?_) ?_
 . rintro ⟨v,i⟩ ⟨m1,m2,m3⟩;dsimp only at m1;refine tD (λ Dv=>?_) λ _=>tS AR;rw[C2 (n:=i+1) AQ AQ];refine tB (Blm h.k.n E l i a.k.uo a.k.to R6 AQ AQ) λ b _=>tG AQ λ _=>tS ⟨⟨by dsimp only;rw[List.length_append];simp only[List.length_cons,List.length_nil];omega,AR,AR⟩,AR⟩
 rintro ⟨can,_⟩ Ca5;dsimp only at Ca5;refine tB (Bim l can d.ca AQ AQ) λ j hj=>tD (λ _=>tS ⟨a,K,N,AR⟩) λ a3=>?_;rcases hj with hj | ⟨a4,a5,t,m,p⟩
 . omega
 have f:=a.k.to t (Bt m);refine tI AQ λ y hy _=>?_;obtain rfl:t=y:=by rw[m] at hy;exact Bf hy
 refine tB (T3 a.k t.pick f.pk.2) ?_;rintro ⟨r,r2⟩ I;refine tD (λ _=>tS ⟨a,K,N,AR⟩) λ a7=>?_;rcases I with I | ⟨KI,JH,u,g,w,a9⟩
 . omega
 refine tB (Bc7 l j r AQ AQ t m) λ ts' Bz8=>?_;have Bk7:ts'.map Pj=(l.set j.toNat {t with state:=1,CZ:=r}).map Pj:=Bz8;have Z:ts'.length=T:=by have:=B3 List.length Bk7;simp at this;omega
 refine tB (Ft _ 2 j r AS) λ e2 R=>tI AQ λ z hz _=>tJ AQ (tI AQ λ t2 a8 Bzb=>?_);have V:=R.2;dsimp only at V;obtain rfl:u=z:=by rw[g] at hz;exact Bf hz
 simp only[Cr];have HC:=a.k.uo u (Bt g);have a2:u.DY<0:=Int.not_le.1 λ H=>by have:=(a.t.b _ u g H).2.1;omega
 have W:((j.toNat:Nat):Int)=j:=AQ;have a0:((r.toNat:Nat):Int)=r:=AQ;have Bz9:TL (E.set r.toNat {u with DY:=j,Dx:=1}) ts':=by
   have:=(a.t.begin m p g w a2).Pj (ts':=ts') (by rw[a0];exact Bk7);rw[W] at this;exact this
 have Bsd:∀x∈ts',TOK S U x:=by
   intro x hx;obtain ⟨k,hk,Y⟩:=List.getElem_of_mem hx;have Kl:ts'[k]?=some x:=by rw[Bp hk,Y]
   obtain ⟨t0,a1,c1,c2,c3,c4⟩:=YV Bk7 Kl;have:TOK S U t0:=by
     rcases ER a1 with ⟨_,rfl⟩ | ⟨_,H⟩
     . exact ⟨f.pk,f.dr,λ _=>⟨KI,JH⟩⟩
     . exact a.k.to t0 (Bt H)
   exact ⟨by rw[<-c1];exact this.pk,by rw[<-c2];exact this.dr,λ H=>by rw[<-c4];exact this.rb AQ⟩
 have kd:DK C B S U T {d with CQ:=o,CR:=q,CO:=E.set r.toNat {u with DY:=j,Dx:=1},CS:=ts',CP:=e2}:=
   ⟨h.k.n,a.k.k,h.k.s,by simpa using OY,ES a.k.uo ⟨HC.hm,HC.ce,HC.tt,AS,HC.rt,HC.rl,HC.ac⟩,Z,R8,Bsd⟩
 have Q:DW C B S U T {d with CQ:=o,CR:=q,CO:=E.set r.toNat {u with DY:=j,Dx:=1},CS:=ts',CP:=e2}:=⟨kd,a.o.Anf {u with DY:=j,Dx:=1} g (Or.inl rfl) rfl rfl,Bz9⟩;refine tB (Aq4 Q r t2.pick {u with DY:=j,Dx:=1} AQ (gs AQ) w (Bsd t2 Bzb).pk AS) ?_;rintro ⟨x3,x4,x5,x6⟩ ⟨q1,q2,q3,q4⟩;dsimp only at q4;have hq:qd ts'+1=qd l:=by rw[Bji Bk7];exact Bo8 m p AS
 refine tS ⟨⟨q1,q2.trans K,q3.trans ?_,AS⟩,AS⟩;rw[<-N];exact D3 g rfl
def outs(a:Ag):Nat:=(a.filter (λ u=>u.state==0)).length
theorem Ao0{a Ka}(h:Mo Ka=Mo a):outs Ka=outs a:=by
 have:∀a:Ag,outs a=((Mo a).filter (· ==0)).length:=by
   intro a;unfold outs Mo;rw[List.filter_map,Cs];rfl
 rw[this,this,h]
theorem Bdc{e}{i}{u v}(b:e[i]?=some u)(j:u.state=0)(h2:v.state≠0):outs (e.set i v)+1=outs e:=by
 induction e generalizing i with
 | nil=>simp at b
 | cons a l k=>
   cases i with
   | zero=>
     simp only[BF,Bo] at b;subst b;have f:(a.state==0)=true:=by simp[j]
     have g:(v.state==0)=false:=by simp[h2]
     simp[outs,Cm,f,g]
   | succ i=>
     have:=k b;unfold outs at this ⊢;simp only[BQ,Cm];split
     . simp only[Br];omega
     . exact this
theorem TL.Byo{m}{o}(h:TL m o){i}{u}(v)(g:m[i]?=some u)(n:v.state=u.state)(h2:v.DY=u.DY)(r:v.Dx=u.Dx)(s:v.state=0->v.Ff=-1):TL (m.set i v) o:=by
 refine ⟨λ k x hx I6=>?_,λ k x hx f=>?_,λ k x hx j Tv=>?_,λ k x hx f=>?_⟩
 . obtain ⟨w,l,p,q⟩:=h.a k x hx I6;by_cases e:i=x.CZ.toNat
   . rw[<-e,g] at l;cases l;exact ⟨v,by rw[<-e];exact gs (Fq g),n.trans p,h2.trans q⟩
   . exact ⟨w,by rw[IT e];exact l,p,q⟩
 . rcases ER hx with ⟨rfl,rfl⟩ | ⟨EH,hx⟩
   . have:=h.b i u g AQ;rw[n,h2,r];exact this
   . exact h.b k x hx f
 . rcases ER hx with ⟨rfl,rfl⟩ | ⟨EH,hx⟩
   . have:=h.c i u g AQ AQ;omega
   . exact h.c k x hx j Tv
 . rcases ER hx with ⟨rfl,rfl⟩ | ⟨EH,hx⟩
   . exact s f
   . exact h.d k x hx f
theorem Bi5(u)(r):∃f:U7,Ky u r=some f/\f.CZ=r/\f.seq=u.seq:=by
 unfold Ky;cases u.DH
 . exact ⟨_,rfl,rfl,rfl⟩
 . exact ⟨_,rfl,rfl,rfl⟩
def Aw0(C B S U T:Nat)(d:DX)(r:Aa×Ab×Ag×Aw×Ak×AA):Prop:=
 DW C B S U T {d with CQ:=r.1,CR:=r.2.1,CO:=r.2.2.1,DV:=r.2.2.2.1,CP:=r.2.2.2.2.1,FG:=r.2.2.2.2.2}/\r.2.2.2.2.1.length<=d.CP.length+48/\r.2.2.2.1.length<=d.DV.length+48/\r.2.2.2.2.2.length+outs r.2.2.1=d.FG.length+outs d.CO/\((∀f∈d.DV,0<=f.CZ/\f.CZ<(U:Int))->∀f∈r.2.2.2.1,0<=f.CZ/\f.CZ<(U:Int))/\((∀g∈d.FG,0<=g.CZ/\g.CZ<(U:Int))->∀g∈r.2.2.2.2.2,0<=g.CZ/\g.CZ<(U:Int))/\d.FG.length<=r.2.2.2.2.2.length
theorem Aqa{C B S U T}{d}(h:DW C B S U T d)(he:d.CP.length<=50000)(hf:d.DV.length<=50000)(hp:d.FG.length<=50000):DT (QR d) (Aw0 C B S U T d):=by
 have NN:=h.k.n.O4;have PY:d.closed.length=C:=h.k.s.cl;unfold QR;refine tB (Ak9 h.k.k d.closed PY) ?_;rintro ⟨l,g,er⟩ ⟨g1,g2,g3,g4,g5,g6⟩;dsimp only at g5;refine tD (λ _=>?_) λ e=>absurd g1 e;have a0:∀(i j:Nat) x y,i<j->g[i]?=some x->g[j]?=some y->x.cell<y.cell:=by
   intro i j x y a5 hx H;have hi:=Fq hx;have hj:=Fq H
   have h1:=(List.pairwise_iff_getElem.1 g4) i j (by simpa using hi) (by simpa using hj) a5;simp only[List.getElem_map] at h1;rw[Bp hi] at hx;rw[Bp hj] at H;rw[<-Bf hx,<-Bf H];exact h1
 refine tB (P:=λ e=>Aw0 C B S U T d (l.CQ,l.CR,e.1,e.2.1,e.2.2.1,e.2.2.2.1)) (tL (λ s=>∃i:Nat,s.2.2.2.2=(i:Int)/\i<=g.length/\Aw0 C B S U T d (l.CQ,l.CR,s.1,s.2.1,s.2.2.1,s.2.2.2.1)/\s.2.2.1.length<=d.CP.length+i/\s.2.1.length<=d.DV.length+i/\s.2.2.2.1.length<=d.FG.length+i/\∀(k:Nat) u (j:Nat) x,s.1[k]?=some u->u.state=1->i<=j->g[j]?=some x->x.cell≠u.cell) (λ s=>g.length - s.2.2.2.2.toNat) ⟨0,rfl,AQ,?_,AR,AR,AR,?_⟩ ?_) (λ ⟨x1,x2,x3,x4,x5⟩ m=>tS m)
 . refine ⟨⟨⟨h.k.n,g2,h.k.s,h.k.ul,h.k.uo,h.k.tl,h.k.t32,h.k.to⟩,?_,h.t⟩,AR,AR,rfl,λ m=>m,λ m=>m,Bk _⟩;intro k u q N;obtain ⟨Z,o2⟩:=h.o k u q N;exact ⟨g6 _ _ Z AQ,λ EH=>⟨g6 _ _ (o2 EH).1 AQ,(o2 EH).2⟩⟩
 . intro k u j x q N _ hx e;obtain ⟨Z,o2⟩:=h.o k u q N;obtain ⟨_,_,_,_,e1,_⟩:=g3 x (Bt hx);rw[e,Z] at e1;have:=Bf e1;omega
 rintro ⟨R,fr,e,pu,_⟩ ⟨i,rfl,hi,⟨z,k2,k3,k4,k5,k6,Y⟩,k7,k8,k9,I⟩;dsimp only at*;have OY:R.length=U:=z.k.ul;refine tD (λ Dv=>tI AQ λ x hx a7=>?_) λ _=>tS ⟨z,k2,k3,k4,k5,k6,Y⟩;obtain ⟨x1,x2,x3,x4,x5,x6⟩:=g3 x a7;have r:0<=x.CZ/\x.CZ<(R.length:Int):=AQ;refine tI r λ u q UY=>tB (Ft _ 11 x.CZ x.cell AS) λ e2 a1=>tJ r ?_;have a2:=a1.2;dsimp only at a2;have HC:=z.k.uo u UY;simp only[Cr];rw[C2 (n:=(i:Int)+1) AQ AQ];refine tD (λ K=>?_) λ K=>?_
 . refine tJ r (tJ r (tJ r (tB (XY h.k.n x.cell AQ) λ rt E=>tG AQ λ _=>tS ?_)));have W:u.DY<0:=Int.not_le.1 λ m=>by have:=(z.t.b _ u q m).1;omega
   have a6:u.Ff=-1:=z.t.d _ u q K;have hv:VM C S T {u with wait:=0,state:=1,cell:=x.cell,Dx:=0,De:=rt}:=⟨HC.hm,AS,HC.tt,HC.tk,E.2,AS,λ _=>x3⟩;have Q:((x.CZ.toNat:Nat):Int)=x.CZ:=AQ;have Aaz:=Bdc (v:={u with wait:=0,state:=1,cell:=x.cell,Dx:=0,De:=rt}) q K AS;refine ⟨⟨i+1,AT,AQ,⟨⟨⟨h.k.n,g2,h.k.s,by simpa using OY,ES z.k.uo hv,h.k.tl,h.k.t32,h.k.to⟩,?_,?_⟩,AS,AS,?_,k5,λ m=>Es (k6 m) ⟨x1,x2⟩,by dsimp only;rw[List.length_append];omega⟩,AS,AS,by dsimp only;rw[List.length_append];simp only[List.length_cons,List.length_nil];omega,?_⟩,AS⟩
   . intro k w p a;rcases ER p with ⟨rfl,rfl⟩ | ⟨EH,p⟩
     . dsimp only;exact ⟨by rw[x6,Q],λ m=>absurd a6 m⟩
     . exact z.o k w p a
   . exact z.t.Ang q W (v:={u with wait:=0,state:=1,cell:=x.cell,Dx:=0,De:=rt}) W (by intro _ m;dsimp only at m;omega) (λ m=>by dsimp only at m;omega)
   . dsimp only;rw[Bw];simp only[Br,Bz];omega
   . intro k w j y p a hj H;rcases ER p with ⟨rfl,rfl⟩ | ⟨EH,p⟩
     . have:=a0 i j x y AQ hx H;dsimp only;omega
     . exact I k w j y p a AQ H
 . refine tJ r ?_;generalize E:(List.drop (if ((u.De.length:Nat):Int)<1 then ((u.De.length:Nat):Int) else 1).toNat (List.take u.De.length u.De))=rt;have Bzh:rt.length<=1000:=by rw[<-E,List.length_drop,BJ];have:=HC.rl;omega
   have Bzg:∀c∈rt,0<=c/\c<(C:Int):=by rw[<-E];exact Ar6 (Ar5 HC.rt)
   have Q:((x.CZ.toNat:Nat):Int)=x.CZ:=AQ;have fin:∀(v:KP) (f:U7),v.state=u.state->v.cell=u.cell->v.Ff=x.cell->v.DY=u.DY->v.Dx=u.Dx->v.Ev=u.Ev->v.De=rt->f.CZ=x.CZ->(∃i:Nat,((i:Nat):Int)+0=(i:Int)/\True)->(∃n:Nat,(i:Int)+1=(n:Int)/\n<=g.length/\Aw0 C B S U T d (l.CQ,l.CR,R.set x.CZ.toNat v,fr++[f],e2,pu)/\e2.length<=d.CP.length+n/\(fr++[f]).length<=d.DV.length+n/\pu.length<=d.FG.length+n/\∀(k:Nat) u (j:Nat) y,(R.set x.CZ.toNat v)[k]?=some u->u.state=1->n<=j->g[j]?=some y->y.cell≠u.cell)/\g.length - ((i:Int)+1).toNat<g.length - ((i:Int)).toNat:=by
     intro v f V v2 v3 v4 v5 v6 v7 v8 _;have hs:Mo (R.set x.CZ.toNat v)=Mo R:=D3 q V;have hv:VM C S T v:=⟨v6 ▸ HC.hm,v2 ▸ HC.ce,by rw[v3];omega,v4 ▸ HC.tk,v7 ▸ Bzg,v7 ▸ Bzh,λ m=>by rw[v2];exact HC.ac (V ▸ m)⟩;refine ⟨⟨i+1,AT,AQ,⟨⟨⟨h.k.n,g2,h.k.s,by simpa using OY,ES z.k.uo hv,h.k.tl,h.k.t32,h.k.to⟩,?_,z.t.Byo v q V v4 v5 (λ m=>AQ)⟩,AS,by dsimp only;rw[List.length_append];simp only[List.length_cons,List.length_nil];omega,by dsimp only;rw[Ao0 hs];exact k4,λ m=>Es (k5 m) (by rw[v8];exact ⟨x1,x2⟩),k6,Y⟩,AQ,by rw[List.length_append];simp only[List.length_cons,List.length_nil];omega,AQ,?_⟩,AQ⟩
     . intro k w p a;rcases ER p with ⟨rfl,rfl⟩ | ⟨EH,p⟩
       . obtain ⟨Z,o2⟩:=z.o _ u q (V ▸ a);rw[v2,v3];exact ⟨Z,λ _=>⟨by rw[x6,Q],I _ u i x q (V ▸ a) (Bk _) hx⟩⟩
       . exact z.o k w p a
     . intro k w j y p a hj H;rcases ER p with ⟨rfl,rfl⟩ | ⟨EH,p⟩
       . rw[v2];exact I _ u j y q (V ▸ a) AQ H
       . exact I k w j y p a AQ H
   refine tG (by split<;>omega) λ _=>tG AQ λ _=>tJ r (tJ r (tJ r ?_));refine tD (λ _=>tD (λ _=>tJ r ?_) λ _=>tJ r ?_) λ _=>tJ r ?_;all_goals
     obtain ⟨f,a3,a4,_⟩:=Bi5 _ x.CZ;refine tT a3 (tG AQ λ _=>tS (fin _ f rfl rfl rfl rfl rfl rfl rfl a4 ⟨0,rfl,trivial⟩))
def toD(n:Nt)(c:Lo):DX:={n with CQ:=c.CQ,CR:=c.CR,closed:=c.closed,Dp:=c.Dp,C0:=c.C0,CO:=c.CO,CS:=c.CS,C7:=c.C7,DV:=[],CP:=[],FG:=[],DO:=[],DD:=[]}
def CW(C B S U T:Nat)(n:Nt)(c:Lo):Prop:=DW C B S U T (toD n c)
theorem An7{α β ε:Type}{step}{Q:ε->Prop}(l:List α)(g:α->β)
   (b:∀(acc:List β) (i:Nat) x,l[i]?=some x->acc.length=i->step (acc,(i:Int))=some (.inl (acc++[g x],(i:Int)+1))) (a:DT (step (l.map g,(l.length:Int))) (λ y=>match y with | .inl _=>False | .inr e=>Q e)):DT (C9 step ([],0)) Q:=by
 refine Awn l (λ x=>[g x]) ?_ (by rw[TA];exact a);intro i x hx;refine b _ i x hx ?_;rw[TA,Cs,BJ];have:=Fq hx;omega
theorem MB{C B S U T}{n}{c}(h:CW C B S U T n c):DT (IM c) (λ r=>r=c):=by
 have OY:c.CO.length=U:=h.k.ul;have R6:c.CS.length=T:=h.k.tl;have R8:=h.k.t32;have m:=h.k.k.u8
 have j:c.closed.length=C:=h.k.s.cl;have f:c.Dp.length=C:=h.k.s.bl;have g:c.C0.length<=B:=h.k.s.pl;have b:=h.k.s.b24;have NN:=h.k.s.O4
 unfold IM;refine tB h.k.k.copy ?_;rintro _ rfl;refine tB (MD _ (-1) AS AS AS) ?_;rintro _ rfl;have a:c.C0.filter (· != -1)=c.C0:=by
   rw[List.filter_eq_self];intro x hx;have:=h.k.s.pr x hx;simp;omega
 refine tG AQ λ _=>tB (An7 (Q:=λ e=>e.1=c.CO) c.CO (λ u=>u) ?_ ?_) ?_
 . intro acc i x hx Aom;have:=Fq hx;have o:=(h.k.uo x (Bt hx)).rl;rw[Q3.eq_1,EO hx,C2 AQ AQ,Bi (by omega:(i:Int)<((c.CO.length:Nat):Int)),Bm,Bd,Bi (by omega:x.De.length<10000000),Bm,Bi (by omega:acc.length+1<10000000),Bm]
 . rw[Q3.eq_1,Bj AQ,Bl];exact tS AT
 . rintro ⟨v,i⟩ l;subst l;refine tS ?_;rw[a];rfl
structure OO(U:Nat)(o:Ni):Prop where
 fl:o.DV.length<=1000
 el:o.CP.length<=30000
 pl:o.FG.length<=1000
 ll:o.DO.length<=1000
 sl:o.DD.length<=1000
 fr:∀f∈o.DV,0<=f.CZ/\f.CZ<(U:Int)
 pr:∀g∈o.FG,0<=g.CZ/\g.CZ<(U:Int)
 lr:∀x∈o.DO,0<=x/\x<(U:Int)
 sr:∀x∈o.DD,0<=x/\x<(U:Int)
theorem OO.nil{U}:OO U ⟨[],[],[],[],[]⟩:=⟨AT,AT,AT,AT,AT,all_nil,all_nil,all_nil,all_nil⟩
theorem Bjo(us):outs us<=us.length:=List.length_filter_le _ _
theorem Afz{C B S U T}{n}{c}(I:NW C B S n)(h:CW C B S U T n c):DT (HK n c) (λ r=>r.2.2=0/\CW C B S U T n r.1/\OO U r.2.1):=by
 have h8:=h.k.k.u8;unfold HK;rw[I.vd,Bd,Bm];refine tB (MB h) ?_;intro x hx;rw[hx];refine tC (λ _=>tS ⟨rfl,h,OO.nil⟩) λ _=>?_;refine tB (Ags h.k AT) ?_;rintro ⟨cl,Dp,pe,E⟩ ⟨N,k2⟩;dsimp only[List.length_nil] at N k2 ⊢;have Sr:DW C B S U T {n with CQ:=c.CQ,CR:=c.CR,closed:=cl,Dp:=Dp,C0:=pe,CO:=c.CO,CS:=c.CS,C7:=c.C7,DV:=[],CP:=E,FG:=[],DO:=[],DD:=[]}:=⟨(h.k.Bd8 ⟨cl,Dp,pe⟩ N).Aml E,h.o,h.t⟩;refine tB (Ago Sr AS AT) ?_;rintro ⟨o2,q2,a2,e2,Q⟩ ⟨R,m2,m3,V⟩;dsimp only[List.length_nil] at R m2 m3 V ⊢;refine tB (Zp R AS) ?_;rintro ⟨o3,q3,l,e3⟩ ⟨W,p2⟩;dsimp only at p2;have y:=Bjo l;have K:l.length=U:=W.k.ul;refine tB (P:=λ s=>DW C B S U T {n with CQ:=s.2.2.2.2.2.1,CR:=s.2.2.2.2.2.2,closed:=cl,Dp:=Dp,C0:=pe,CO:=s.1,CS:=s.2.2.2.2.1,C7:=c.C7,DV:=s.2.1,CP:=s.2.2.1,FG:=s.2.2.2.1,DO:=Q,DD:=[]}/\s.2.2.1.length<=3000/\s.2.1.length<=500/\s.2.2.2.1.length<=10/\(∀f∈s.2.1,0<=f.CZ/\f.CZ<(U:Int))/\(∀g∈s.2.2.2.1,0<=g.CZ/\g.CZ<(U:Int)))
   (tL (λ s=>DW C B S U T {n with CQ:=s.2.2.2.2.2.1,CR:=s.2.2.2.2.2.2,closed:=cl,Dp:=Dp,C0:=pe,CO:=s.1,CS:=s.2.2.2.2.1,C7:=c.C7,DV:=s.2.1,CP:=s.2.2.1,FG:=s.2.2.2.1,DO:=Q,DD:=[]}/\s.2.2.1.length+200*outs s.1<=1700/\s.2.1.length+48*outs s.1<=400/\s.2.2.2.1.length+outs s.1<=8/\(∀f∈s.2.1,0<=f.CZ/\f.CZ<(U:Int))/\(∀g∈s.2.2.2.1,0<=g.CZ/\g.CZ<(U:Int))) (λ s=>outs s.1) ⟨W,AS,by dsimp only[List.length_nil];omega,by dsimp only[List.length_nil];omega,all_nil,all_nil⟩ ?_) ?_
 . rintro ⟨v,fr,e,pu,ts,o,q⟩ ⟨a,r2,r3,r4,m,p⟩;dsimp only at*;refine tB (Aq3 a AS) ?_;rintro ⟨o4,q4,a3,a1,e4⟩ ⟨s1,s2,s3,s4⟩;dsimp only at s4;refine tB (Als s1 AS) ?_;rintro ⟨o5,q5,a4,e5⟩ ⟨⟨t1,t2,t3,t4⟩,_⟩;dsimp only at t4;refine tB (Alm t1 AS) ?_;rintro ⟨o6,q6,z,e6⟩ ⟨⟨v1,v2,v3,v4⟩,_⟩;dsimp only at v4;refine tB (Aqa v1 AS AS AS) ?_;rintro ⟨o7,q7,a5,f7,e7,a0⟩ ⟨Y,w2,w3,w4,Z,w6,w7⟩;dsimp only at*;have ho:outs z=outs v:=Ao0 (by rw[v3,t3,s3]);refine tD (λ heq=>tS ⟨Y,AS,AS,AS,Z m,w6 p⟩) λ EH=>tS ⟨⟨Y,AS,AS,AS,Z m,w6 p⟩,AS⟩
 . rintro ⟨v,fr,e,pu,ts,o,q⟩ ⟨a,r2,r3,r4,m,p⟩;dsimp only at*;refine tB (P:=λ s=>(∀u∈s.1,VM C S T u)/\s.1.map core=v.map core) (tL (λ s=>((∀u∈s.1,VM C S T u)/\s.1.map core=v.map core)/\0<=s.2/\s.2<=(U:Int)) (λ s=>((U:Int) - s.2).toNat) ⟨⟨a.k.uo,rfl⟩,AR,AR⟩ ?_) ?_
   . rintro ⟨Ka,i⟩ ⟨⟨b,j⟩,x3,x4⟩;have H:Ka.length=U:=by have:=B3 List.length j;simp at this;rw[this];exact a.k.ul
     refine tD (λ Dv=>?_) λ _=>tS ⟨b,j⟩;rw[C2 (n:=i+1) AQ AQ];refine tB (LS a.k.k i) λ w _=>tD (λ _=>tI AQ λ u hu UY=>tS ⟨⟨⟨ES b ((b u UY).same _ rfl rfl rfl rfl rfl (b u UY).rt (b u UY).rl),(D3 hu (by rfl)).trans j⟩,AR,AR⟩,AR⟩) λ _=>tS ⟨⟨⟨b,j⟩,AR,AR⟩,AR⟩
   . rintro ⟨Ka,_⟩ ⟨b,j⟩;have H:Ka.length=U:=by have:=B3 List.length j;simp at this;rw[this];exact a.k.ul
     refine tS ⟨rfl,⟨⟨I,a.k.k,a.k.s,H,b,a.k.tl,a.k.t32,a.k.to⟩,a.o.core j,a.t.core j⟩,⟨AS,AS,AS,AS,AT,m,p,V all_nil,all_nil⟩⟩
theorem An4{n}{g}(i:GW n g)(a1)(a2)(v:a1.length=n)(h2:0<=a2/\a2<(n:Int)):DT (ID g a1 a2) (λ r=>r.length<=200):=by
 have K:=i.gl;have E:=i.g24
 unfold ID;refine tI AQ λ _ _ _=>tC (λ _=>tS AT) λ _=>?_;obtain ⟨d,u,I,H⟩:=Yy i a1 a2 v h2;rw[u,Bd];refine tB (P:=λ e=>e.1=-1∨(0<=e.1/\e.1<(n:Int)/\∃x,d[e.1.toNat]?=some x/\0<=x)) (tL (λ t=>(t.1=-1∨(0<=t.1/\t.1<(n:Int)/\∃x,d[t.1.toNat]?=some x/\0<=x))/\0<=t.2/\t.2<=24) (λ t=>(24 - t.2).toNat) ⟨Or.inl rfl,AR,AR⟩ ?_) ?_
 . rintro ⟨b,k⟩ ⟨o,S,T⟩;refine tI AQ λ row El m=>tD (λ Dv=>tI AQ λ x _ hx=>?_) (λ _=>tS o);have R:=i.gr row m;have Kl:=R.2 x hx;rw[C2 AQ AQ];have j:∀a:Int,(a=-1∨(0<=a/\a<(n:Int)/\∃x,d[a.toNat]?=some x/\0<=x))->((a=-1∨(0<=a/\a<(n:Int)/\∃x,d[a.toNat]?=some x/\0<=x))/\0<=k+1/\k+1<=24)/\(24 - (k+1)).toNat<(24 - k).toNat:=λ a hb=>⟨⟨hb,AQ,AQ⟩,AQ⟩;refine tI AQ λ q f _=>tD (λ s=>tD (λ _=>tS (j x (Or.inr ⟨Kl.1,Kl.2,q,f,s⟩))) λ l=>?_) λ _=>tS (j b o);exact tI AQ λ _ _ _=>tD (λ _=>tS (j x (Or.inr ⟨Kl.1,Kl.2,q,f,s⟩))) λ _=>tS (j b o)
 . rintro ⟨b,k⟩ hb;refine tD (λ _=>tS AT) λ l=>?_;rcases hb with e | ⟨w,y,x,z,B⟩
   . omega
   refine tB (ZD i _ b a2 v ⟨w,y⟩ h2) λ p N=>?_;have EH:=N.2.2 d x u z B;have Q:0<p.length:=Co.2 EH;rw[C2 AQ AQ];refine tG EH λ _=>tG AQ λ _=>tG (by rw[BJ];simp only[Br,Bz];omega) λ _=>tS ?_;rw[Bw,BJ];simp only[Br,Bz];omega
theorem Bc1{n}{g}(a:GW n g)(a1)(l:a1.length=n):DT (JY g a1) (λ r=>0<=r.1/\r.1<=200):=by
 have j:=a.gl;have b:=a.g24
 unfold JY;have f:DT (Tg g a1) (λ _=>True):=by
   unfold Tg;exact tB (Anr a) λ _ _=>tC (λ _=>tD (λ _=>tS trivial) λ _=>tS trivial) λ _=>tS trivial
 refine tB f λ _ _=>tD (λ _=>tB (P:=λ e=>e.1.length<=200) (tL (λ s=>s.1.length<=200/\0<=s.2/\s.2<=(n:Int)) (λ s=>((n:Int) - s.2).toNat) ⟨AT,AR,AR⟩ ?_) (λ ⟨v,i⟩ k=>tS (by dsimp only at k ⊢;omega))) λ _=>tS AS;rintro ⟨v,i⟩ ⟨m,p,q⟩;refine tD (λ Dv=>?_) λ _=>tS m;rw[C2 AQ AQ];exact tB (An4 a a1 i l AQ) λ w o=>tD (λ _=>tD (λ _=>tS AR) λ _=>tD (λ _=>tS AR) λ _=>tS AR) λ _=>tS AR
theorem Bc2{C B S}{n}(h:NW C B S n):DT (LU n) (λ _=>True):=by
 have b:=h.nb;have NN:=h.O4;have:=h.bc
 unfold LU;rw[h.vd,Bd,Bm,h.cs];refine tG AQ λ _=>tB (Bc1 h.g _ AW) ?_;rintro ⟨e,f,i⟩ _;dsimp only;rw[Bd];have a:(decide (0<=(C:Int))&&decide ((C:Int).toNat<10000000))=true:=AW;rw[a,Bm];exact tB (Ajk h _ AT) λ _ _=>tD (λ _=>tS trivial) λ _=>tS trivial
theorem ZG{C B S}{n}(h:NW C B S n)(a):DT (Ha n a) (λ r=>-1<=r/\r<(B:Int)):=by
 have f:=h.nb;have b:=h.g.g24
 unfold Ha;refine tB (P:=λ e=>match e with | .inl _=>True | .inr r=>0<=r/\r<(B:Int)) (MF n.blocks (λ _=>True) trivial ?_ ?_) ?_
 . intro i x hx l _ k;refine tD (λ _=>?_) (λ h=>AQ);rw[EO hx,Bd,EN AQ AQ (by omega:n.blocks.length<=100000000)];exact tD (λ _=>tS AS) λ _=>tS ⟨rfl,trivial⟩
 . intro _;exact tD (λ h=>AQ) (λ _=>tS trivial)
 . rintro (v | r) j
   . exact tS AQ
   . exact tS (by dsimp only at j;omega)
theorem Yv{C B S}{n}(h:NW C B S n)(a):DT (FR n a) (λ r=>-1<=r/\r<(S:Int)):=by
 have Ut:=h.ns;have f:=h.s6
 unfold FR;refine tB (P:=λ e=>match e with | .inl _=>True | .inr r=>0<=r/\r<(S:Int)) (MF n.CV (λ _=>True) trivial ?_ ?_) ?_
 . intro i x hx j _ g;refine tD (λ _=>?_) (λ h=>AQ);rw[EO hx,Bd,EN AQ AQ (by omega:n.CV.length<=100000000)];exact tD (λ _=>tS AS) λ _=>tS ⟨rfl,trivial⟩
 . intro _;exact tD (λ h=>AQ) (λ _=>tS trivial)
 . rintro (v | r) b
   . exact tS AQ
   . exact tS (by dsimp only at b;omega)
theorem Ajm{C B S}{n}(h:NW C B S n)(a):DT (E9 n a) (λ r=>r.length<=10/\∀x∈r,0<=x/\x<(C:Int)):=by
 have f:=h.bc;have Ut:=h.ns;have NN:=h.O4
 unfold E9;refine tB (ZG h a) λ x hx=>tD (λ e=>tS ⟨AT,ND AQ⟩) λ _=>tB (Yv h a) λ y l=>?_;refine tB (P:=λ r=>r.1.length<=10/\∀x∈r.1,0<=x/\x<(C:Int)) (tL (λ s=>(s.1.length:Int)=s.2/\(∀x∈s.1,0<=x/\x<(C:Int))/\0<=s.2/\s.2<=4) (λ s=>(5 - s.2).toNat) ⟨AT,all_nil,AR,AR⟩ ?_) (λ ⟨v,i⟩ g=>tS g);rintro ⟨v,i⟩ ⟨k,b,m,o⟩;dsimp only at k;refine tD (λ e=>tI AQ λ s _ j=>?_) λ _=>tS ⟨AR,b⟩;have:=h.sp s j;rw[C2 (n:=s.base+i) AQ AQ,C2 (n:=i+1) AQ AQ];refine tD (λ _=>tG AQ λ _=>tS ⟨⟨by dsimp only;rw[List.length_append];simp only[List.length_cons,List.length_nil];omega,Es b AQ,AR,AR⟩,AR⟩) λ _=>tS ⟨AR,b⟩
structure LW(C B S U T:Nat)(cl:Ad)(Dp pe:Aa)(ts:Ao)(us:Ag):Prop where
 s:SG C B ⟨cl,Dp,pe⟩
 ul:us.length=U
 uh:∀u∈us,-2<=u.Ev/\u.Ev<(S:Int)
 u8:U<=8
 tl:ts.length=T
 t32:T<=32
theorem Gj(k):C3 k=some ⟨k,0⟩:=rfl
theorem As8{C B S U T}{n}(h:NW C B S n){cl}{Dp pe}{Q}{H}(j:LW C B S U T cl Dp pe Q H)(x):DT (P7 n cl Dp pe Q H x) (λ r=>SG C B ⟨cl,Dp,r.2⟩):=by
 have Y:pe.length<=B:=j.s.pl;have m:=h.g.g24;have o:=h.bc;have OY:=j.ul;have h8:=j.u8
 unfold P7;refine tB (ZG h x.a) λ b hb=>tD (λ _=>tT (Gj _) (tS j.s)) λ h0=>?_;have q:DT (E0 ⟨cl,Dp,pe⟩) (λ r=>r.length=C/\∀y∈pe,r[y.toNat]?=some true):=by
   have PY:cl.length=C:=j.s.cl;unfold E0;dsimp only;have:=h.O4;refine tG AQ λ _=>tB (P:=λ e=>e.1.length=C/\∀y∈pe,e.1[y.toNat]?=some true) (tL (λ s=>∃i:Nat,s.2=(i:Int)/\i<=pe.length/\s.1.length=C/\∀y∈pe.take i,s.1[y.toNat]?=some true) (λ s=>pe.length - s.2.toNat) ⟨0,rfl,AQ,PY,AT⟩ ?_) (λ ⟨v,i⟩ V=>tS V);rintro ⟨v,_⟩ ⟨i,rfl,hi,E,N⟩;dsimp only at E;refine tD (λ Dv=>tI (by dsimp only at Dv ⊢;omega) λ y K w=>?_) (λ t=>tS ⟨E,?_⟩)
   . have a0:=j.s.pr y w;refine tI AQ λ _ _ _=>tS ⟨⟨i+1,C2 AQ AQ,by dsimp only at Dv;omega,by simpa using E,?_⟩,by dsimp only;rw[C2 AQ AQ];dsimp only at Dv;omega⟩;rw[Be] at K;rw[Fv K];refine Es (λ z hz=>?_) (gs AQ);rw[BH];split
     . rw[if_pos AQ]
     . exact N z hz
   . dsimp only at t;rwa[Bx AQ] at N
 refine tB q λ c l=>tI AQ λ v Z _=>tC (λ _=>tT (Gj _) (tS j.s)) λ u=>tB (Ks H AQ) ?_;rintro ⟨x1,x2,x3⟩ _;refine tB (Arc h c b x2 l.1 AQ) λ f _=>tC (λ _=>tG AQ λ _=>tT (Gj _) (tS ?_)) λ _=>tT (Gj _) (tS j.s);have p:b∉pe:=by
   intro W;have:=l.2 b W;rw[Z] at this;rw[u] at this;cases this
 have k:(pe++[b]).Nodup:=List.nodup_append.2 ⟨j.s.pn,AT,λ a R c l=>by obtain rfl:=BG.1 l;exact λ e=>p (e ▸ R)⟩;have I:∀y∈pe++[b],0<=y/\y<(B:Int):=Es j.s.pr AQ;exact ⟨j.s.cl,j.s.bl,k,I,Y4 B _ k I,o,m,h.O4⟩
theorem Asn{C B S U T}{n}(h:NW C B S n){cl}{Dp pe}{o}{k}(b:LW C B S U T cl Dp pe o k)(x):DT (P8 n cl Dp pe o k x) (λ r=>SG C B ⟨r.2.1,r.2.2.1,r.2.2.2⟩):=by
 have PY:cl.length=C:=b.s.cl;have E:Dp.length=C:=b.s.bl;have OY:=b.ul;have R:=b.u8
 unfold P8;refine tB (Ajm h x.a) λ w l=>tD (λ _=>tT (Gj _) (tS b.s)) λ _=>?_;refine tB (P:=λ e=>match e with | .inl _=>True | .inr r=>SG C B ⟨r.2.1,r.2.2.1,r.2.2.2⟩) (MF w (λ _=>True) trivial ?_ ?_) ?_
 . intro i y g j _ V;have N:=l.2 y j;refine tD (λ _=>?_) (λ h=>AQ);rw[EO g,Bd,EN AQ AQ (by omega:w.length<=100000000)];exact tI AQ λ _ _ _=>tI AQ λ _ _ _=>tC (λ _=>tD (λ v=>tD (λ z=>tI ⟨v,z⟩ λ _ _ _=>tD (λ _=>tT (Gj _) (tS b.s)) λ _=>tS ⟨rfl,trivial⟩) λ _=>tS ⟨rfl,trivial⟩) λ _=>tS ⟨rfl,trivial⟩) λ _=>tS ⟨rfl,trivial⟩
 . intro _;exact tD (λ h=>AQ) (λ _=>tS trivial)
 . rintro (_ | r) I
   . refine tB (P:=λ e=>SG C B ⟨e.1,e.2.1,e.2.2.1⟩) (tL (λ s=>SG C B ⟨s.1,s.2.1,s.2.2.1⟩/\0<=s.2.2.2/\s.2.2.2<=(w.length:Int)) (λ s=>((w.length:Int) - s.2.2.2).toNat) ⟨b.s,AR,AR⟩ ?_) ?_
     . rintro ⟨t,q,Q,i⟩ ⟨f,m,W⟩;dsimp only at m;refine tD (λ Dv=>?_) λ _=>tS f;rw[EN m Dv AQ];exact tI AQ λ y _ g=>tB (Ak4 _ y f (l.2 y g)) λ s K=>tS ⟨⟨K,AR,AR⟩,AR⟩
     . rintro ⟨t,q,Q,_⟩ f;refine tB (Ks k AQ) ?_;rintro ⟨Y,p,Z⟩ _;refine tB (G5 _ b.s) λ c H=>tB (M5 h c p H) λ _ _=>tC (λ _=>tB (G5 _ f) λ u XS=>tB (M5 h u p XS) λ _ _=>tC (λ _=>tT (Gj _) (tS f)) λ _=>tT (Gj _) (tS b.s)) λ _=>tT (Gj _) (tS f)
   . exact tS I
theorem Alx(cl)(Dp pe)(ts)(us)(x):DT (SU cl Dp pe ts us x) (λ r=>r.2.length=ts.length/\(r.1.kind=1->0<=x.n/\x.n<(ts.length:Int))):=by
 unfold SU;refine tD (λ _=>tT (Gj _) (tS ⟨rfl,λ h=>by dsimp only at h;omega⟩)) λ _=>tD (λ _=>tT (Gj _) (tS ⟨rfl,λ h=>by dsimp only at h;omega⟩)) λ _=>tI AQ λ _ _ _=>tD (λ _=>tT (Gj _) (tS ⟨rfl,λ h=>by dsimp only at h;omega⟩)) λ _=>tT (Gj _) (tS ⟨AT,λ h=>AQ⟩)
theorem Aal(ts)(e:ts.length<=1000):DT (HQ ts) (λ _=>True):=by
 unfold HQ;refine tB (P:=λ _=>True) (tL (λ s=>0<=s.2/\s.2<=(ts.length:Int)) (λ s=>((ts.length:Int) - s.2).toNat) AR ?_) (λ ⟨_,_⟩ _=>tS trivial);rintro ⟨a,i⟩ ⟨b,f⟩;refine tD (λ Dv=>?_) λ _=>tS trivial;rw[EN b Dv AQ];exact tI AQ λ _ _ _=>tD (λ _=>tS AR) λ _=>tS AR
theorem As0{C B S U T}{n}(h:NW C B S n){cl}{Dp pe}{e}{i}(f:LW C B S U T cl Dp pe e i)(x):DT (YU n cl Dp pe e i x) (λ r=>r.2=e∨(T+1<=32/\∃p d,r.2=e++[⟨p,d,0,-1,0⟩]/\0<=p/\p<(S:Int)/\0<=d/\d<(S:Int))):=by
 have Ut:=h.ns;have R6:=f.tl;have R8:=f.t32
 unfold YU;refine tD (λ _=>tT (Gj _) (tS (Or.inl rfl))) λ _=>tB (Yv h x.a) λ p o=>tB (Yv h x.b) λ d m=>tD (λ _=>tT (Gj _) (tS (Or.inl rfl))) λ k=>tD (λ _=>tT (Gj _) (tS (Or.inl rfl))) λ j=>tI AQ λ _ _ _=>tC (λ _=>tT (Gj _) (tS (Or.inl rfl))) λ _=>tI AQ λ _ _ _=>tC (λ _=>tT (Gj _) (tS (Or.inl rfl))) λ _=>tB (G5 _ f.s) λ c g=>tB (Uc h c p g AQ) λ _ _=>tC (λ _=>tB (Uc h c d g AQ) λ _ _=>tC (λ _=>tB (Aal e AQ) λ _ _=>tD (λ _=>tT (Gj _) (tS (Or.inl rfl))) λ _=>tD (λ _=>tT (Gj _) (tS (Or.inl rfl))) λ l=>tG AQ λ _=>tS (Or.inr ⟨AQ,p,d,rfl,AQ,AQ,AQ,AQ⟩)) λ _=>tT (Gj _) (tS (Or.inl rfl))) λ _=>tT (Gj _) (tS (Or.inl rfl))
theorem Akl(cl)(Dp pe)(ts)(us)(x)(a:us.length<=8):DT (SS cl Dp pe ts us x) (λ r=>r.2.length=us.length/\(r.1.kind=1->0<=x.n/\x.n<(us.length:Int))):=by
 unfold SS;refine tD (λ _=>tT (Gj _) (tS ⟨rfl,λ h=>by dsimp only at h;omega⟩)) λ _=>tD (λ _=>tT (Gj _) (tS ⟨rfl,λ h=>by dsimp only at h;omega⟩)) λ _=>tI AQ λ _ _ _=>tD (λ _=>tT (Gj _) (tS ⟨rfl,λ h=>AQ⟩)) λ _=>tD (λ _=>tT (Gj _) (tS ⟨rfl,λ h=>AQ⟩)) λ _=>tC (λ _=>tT (Gj _) (tS ⟨rfl,λ h=>AQ⟩)) λ _=>tB (Ks us AQ) ?_;rintro ⟨b,e,f⟩ _;exact tD (λ _=>tT (Gj _) (tS ⟨rfl,λ h=>AQ⟩)) λ _=>tT (Gj _) (tS ⟨AT,λ h=>AQ⟩)
theorem An9{C B S U T}{n}(h:NW C B S n){cl}{Dp pe}{f}{i}(e:LW C B S U T cl Dp pe f i)(x):DT (VV n cl Dp pe f i x) (λ r=>r.kind≠1):=by
 have PY:cl.length=C:=e.s.cl;have j:pe.length<=B:=e.s.pl;have:=h.bc;have:=h.g.g24
 unfold VV;exact tB (ZG h x.a) λ b hb=>tD (λ _=>tT (Gj _) (tS AS)) λ _=>tI AQ λ _ _ _=>tC (λ _=>tS AS) λ _=>tB (Mm pe b AQ) λ _ _=>tC (λ _=>tS AS) λ _=>tT (Gj _) (tS AS)
theorem Bbq{C B S U T}{n}(h:NW C B S n){cl}{Dp pe}{g}{b}(f:LW C B S U T cl Dp pe g b)(x):DT (Aby n cl Dp pe g b x) (λ r=>(r.2=b/\r.1.kind≠1)∨(U+1<=8/\r.1.n=(U:Int)/\∃e,r.2=b++[⟨0,false,e,0,0,0,false,false,0,0,[],0,0⟩]/\0<=e/\e<(S:Int))):=by
 have Ut:=h.ns;have OY:=f.ul;have o:=f.u8
 unfold Aby;have no:∀k:Int,k≠1->DT (some ((⟨k,0⟩:OU),b)) (λ r=>(r.2=b/\r.1.kind≠1)∨(U+1<=8/\r.1.n=(U:Int)/\∃e,r.2=b++[⟨0,false,e,0,0,0,false,false,0,0,[],0,0⟩]/\0<=e/\e<(S:Int))):=λ k l=>tS (Or.inl ⟨rfl,l⟩);refine tB (Yv h x.a) λ p q=>tD (λ _=>tT (Gj _) (no 3 AQ)) λ m=>tI AQ λ _ _ _=>tC (λ _=>tB (Bc2 h) ?_) λ _=>tT (Gj _) (no 3 AQ);rintro ⟨t,u⟩ _;refine tB (Ks b AQ) ?_;rintro ⟨v,w,y⟩ _;refine tD (λ _=>tT (Gj _) (no 7 AQ)) λ _=>tD (λ _=>tT (Gj _) (no 7 AQ)) λ i=>tB (G5 _ f.s) λ c j=>tB (Ajo b AQ) ?_;rintro _ rfl;refine tB (WJ h c _ p j AW AQ) λ _ _=>tD (λ _=>tT (Gj _) (no 8 AQ)) λ _=>tG AQ λ _=>tS (Or.inr ⟨AQ,?_,p,rfl,AQ,AQ⟩);rw[Bw];simp only[Br,Bz];rw[C2 AQ AQ];omega
theorem Bjc:Ns=YU:=rfl
theorem add_eq:Pa=Aby:=rfl
theorem Bcx:Mi=VV:=rfl
theorem Awz:KV=SS:=rfl
theorem Bbg:KW=SU:=rfl
def mU(u:KP):KP:=⟨u.state,u.Fc,u.Ev,0,0,0,false,false,0,0,[],0,0⟩
theorem Ahk{C B}{cl}{Dp pe}(h:SG C B ⟨cl,Dp,pe⟩):pe.filter (· != -1)=pe:=by
 rw[List.filter_eq_self];intro x hx;have:=h.pr x hx;simp;omega
theorem Amx{C B S U T}{l}(h:LW C B S U T l.closed l.Dp l.C0 l.CS l.CO):DT (NK l) (λ r=>r=⟨l.closed,l.Dp,l.C0,l.CS,l.CO.map mU⟩):=by
 have OY:=h.ul;have R6:=h.tl;have R8:=h.t32;have k:=h.u8
 have g:l.closed.length=C:=h.s.cl;have b:l.Dp.length=C:=h.s.bl;have f:l.C0.length<=B:=h.s.pl;have a:=h.s.b24;have NN:=h.s.O4
 unfold NK;refine tB (MD _ (-1) AS AS AS) ?_;rintro _ rfl;refine tG AQ λ _=>tB (An7 (Q:=λ e=>e.1=l.CO.map mU) l.CO mU ?_ ?_) ?_
 . intro acc i x hx Aom;have:=Fq hx;rw[Q4.eq_1,EO hx,C2 AQ AQ,Bi (by omega:(i:Int)<((l.CO.length:Nat):Int)),Bm,Bd,Bi (by omega:acc.length+1<10000000),Bm];rfl
 . rw[Q4.eq_1,Bj AQ,Bl];exact tS rfl
 . rintro ⟨v,i⟩ j;subst j;refine tS ?_;rw[Ahk h.s]
theorem Bbu{C B S U T}{n}{c}(h:CW C B S U T n c):DT (NV c) (λ r=>LW C B S U T r.closed r.Dp r.C0 r.CS r.CO/\r.CO=c.CO.map mU):=by
 have OY:c.CO.length=U:=h.k.ul;have R6:c.CS.length=T:=h.k.tl;have R8:=h.k.t32;have g:=h.k.k.u8
 have m:c.closed.length=C:=h.k.s.cl;have j:c.Dp.length=C:=h.k.s.bl;have l:c.C0.length<=B:=h.k.s.pl;have f:=h.k.s.b24;have NN:=h.k.s.O4
 unfold NV;refine tB (MD _ (-1) AS AS AS) ?_;rintro _ rfl;refine tG AQ λ _=>tB (P:=λ r=>r.1.length=T) (tL (λ s=>s.1.length=T/\0<=s.2/\s.2<=(T:Int)) (λ s=>((T:Int) - s.2).toNat) ⟨R6,AR,AR⟩ ?_) ?_
 . rintro ⟨v,i⟩ ⟨t,y,z⟩;refine tD (λ Dv=>?_) λ _=>tS t;rw[C2 AQ AQ];exact tI AQ λ _ _ _=>tS AU
 rintro ⟨E,_⟩ a;refine tB (An7 (Q:=λ e=>e.1=c.CO.map mU) c.CO mU ?_ ?_) ?_
 . intro acc i x hx Aom;have:=Fq hx;rw[Pc.eq_1,EO hx,C2 AQ AQ,Bi (by omega:(i:Int)<((c.CO.length:Nat):Int)),Bm,Bd,Bi (by omega:acc.length+1<10000000),Bm];rfl
 . rw[Pc.eq_1,Bj AQ,Bl];exact tS rfl
 . rintro ⟨v,i⟩ p;subst p;refine tS ?_;have b:SG C B ⟨c.closed,c.Dp,c.C0⟩:=h.k.s;rw[Ahk b];refine ⟨⟨b,by simpa using OY,?_,g,a,R8⟩,rfl⟩;intro u o;obtain ⟨w,q,rfl⟩:=BR.1 o;exact (h.k.uo w q).hm
structure Bmk(C B S U T:Nat)(l:Ldg)(x:Cm4)(o:Ldg×OU):Prop where
 s:SG C B ⟨o.1.closed,o.1.Dp,o.1.C0⟩
 t:o.1.CS.length=T∨(T+1<=32/\x.kind=1/\o.1.CS.length=T+1/\∃p d,o.1.CS[T]?=some ⟨p,d,0,-1,0⟩/\0<=p/\p<(S:Int)/\0<=d/\d<(S:Int))
 u:o.1.CO.length=U∨(U+1<=8/\x.kind=5/\o.1.CO.length=U+1/\o.2.n=(U:Int)/\∃w,o.1.CO[U]?=some w/\0<=w.Ev/\w.Ev<(S:Int))
 c:o.2.kind=1->x.kind=2->0<=x.n/\x.n<(T:Int)
 r:o.2.kind=1->x.kind=6->0<=x.n/\x.n<(U:Int)
 a:o.2.kind=1->x.kind=5->o.1.CO.length=U+1/\o.2.n=(U:Int)
theorem Awl{C B S U T}{n}(j:NW C B S n){l}(h:LW C B S U T l.closed l.Dp l.C0 l.CS l.CO)(x):DT (Xb n l x) (Bmk C B S U T l x):=by
 have R6:=h.tl;have OY:=h.ul;have R8:=h.t32;have H:=h.u8
 unfold Xb;refine tB (Amx h) ?_;rintro _ rfl;dsimp only;rw[Gj,Bd,Bjc,add_eq,Bcx,Awz,Bbg];have b:(l.CO.map mU).length=U:=by simpa using OY
 have h2:LW C B S U T l.closed l.Dp l.C0 l.CS (l.CO.map mU):=⟨h.s,b,λ u N=>by obtain ⟨w,Q,rfl⟩:=BR.1 N;exact h.uh w Q,H,R6,R8⟩;have same:∀a:OU,a.kind≠1->Bmk C B S U T l x (⟨l.closed,l.Dp,l.C0,l.CS,l.CO.map mU⟩,a):=λ a g=>⟨h.s,Or.inl R6,Or.inl b,λ e=>absurd e g,λ e=>absurd e g,λ e=>absurd e g⟩;refine tD (λ e=>tB (As0 j h2 x) ?_) λ n1=>tD (λ e=>tB (Alx _ _ _ _ _ x) ?_) λ n2=>tD (λ e=>tB (As8 j h2 x) ?_) λ n3=>tD (λ e=>tB (Asn j h2 x) ?_) λ n4=>tD (λ e=>tB (Bbq j h2 x) ?_) λ n5=>tD (λ e=>tB (Akl _ _ _ _ _ x AQ) ?_) λ n6=>?_
 . rintro ⟨a,R⟩ r;refine tS ⟨h.s,?_,Or.inl b,λ _ f=>AQ,λ _ f=>AQ,λ _ f=>AQ⟩;rcases r with rfl | ⟨m,p,d,rfl,o⟩
   . exact Or.inl R6
   . exact Or.inr ⟨m,e,by simp[R6],p,d,by dsimp only;rw[List.getElem?_append_right AQ,R6];simp,o⟩
 . rintro ⟨a,R⟩ ⟨m,o⟩;exact tS ⟨h.s,Or.inl (m.trans R6),Or.inl b,λ f _=>by have:=o f;omega,λ _ f=>AQ,λ _ f=>AQ⟩
 . rintro ⟨a,pe⟩ q;exact tS ⟨q,Or.inl R6,Or.inl b,λ _ f=>AQ,λ _ f=>AQ,λ _ f=>AQ⟩
 . rintro ⟨a,c',Z,p'⟩ q;exact tS ⟨q,Or.inl R6,Or.inl b,λ _ f=>AQ,λ _ f=>AQ,λ _ f=>AQ⟩
 . rintro ⟨a,Y⟩ v;rcases v with ⟨rfl,I⟩ | ⟨V,y,K,rfl,W⟩
   . exact tS (same a I)
   . have i:(l.CO.map mU++[(⟨0,false,K,0,0,0,false,false,0,0,[],0,0⟩:KP)]).length=U+1:=by rw[Bw,b];rfl
     exact tS ⟨h.s,Or.inl R6,Or.inr ⟨V,e,i,y,_,by dsimp only;rw[List.getElem?_append_right AQ,b];simp;rfl,W⟩,λ _ f=>AQ,λ _ f=>AQ,λ _ _=>⟨i,y⟩⟩
 . rintro ⟨a,Y⟩ ⟨m,o⟩;exact tS ⟨h.s,Or.inl R6,Or.inl (m.trans b),λ _ f=>AQ,λ f _=>by have:=o f;omega,λ _ f=>AQ⟩
 . refine tD (λ _=>?_) λ _=>tD (λ _=>tB (An9 j h2 x) λ a g=>tS (same a g)) λ _=>tD (λ _=>tB (Ks _ AQ) ?_) λ _=>tD (λ _=>tB (Aal _ AQ) λ k _=>tS (same _ AS)) λ _=>tS (same _ AS)
   . rw[Gj,Bd];exact tD (λ z=>tD (λ E=>tI ⟨z,E⟩ λ t _ _=>tS (same _ AS)) λ _=>tS (same _ AS)) λ _=>tS (same _ AS)
   . rintro ⟨x1,x2,x3⟩ _;exact tS (same _ AS)
theorem OWN.free{o}{b}(h:OWN o b)(p:∀u∈b,u.state=1->0<=u.cell/\-1<=u.Ff){i:Nat}{u}(v)(n:b[i]?=some u)(l:v.state≠1)(o')(g:∀(k:Nat) (x:Int),o[k]?=some x->x≠(i:Int)->o'[k]?=some x):OWN o' (b.set i v):=by
 intro k w e a;rcases ER e with ⟨rfl,rfl⟩ | ⟨EH,e⟩
 . exact absurd a l
 . obtain ⟨m,j⟩:=h k w e a;exact ⟨g _ _ m AQ,λ f=>⟨g _ _ (j f).1 AQ,(j f).2⟩⟩
def Auv(C B S U T:Nat)(d:DX)(r:Aa×Ab×Ad×Aa×Aa×Ag×Ao×Bool×Ak×Aa×Aa):Prop:=
 DW C B S U T {d with CQ:=r.1,CR:=r.2.1,closed:=r.2.2.1,Dp:=r.2.2.2.1,C0:=r.2.2.2.2.1,CO:=r.2.2.2.2.2.1,CS:=r.2.2.2.2.2.2.1,C7:=r.2.2.2.2.2.2.2.1,CP:=r.2.2.2.2.2.2.2.2.1,DO:=r.2.2.2.2.2.2.2.2.2.1,DD:=r.2.2.2.2.2.2.2.2.2.2}/\r.2.2.2.2.2.2.2.2.1.length<=10000/\r.2.2.2.2.2.2.2.2.2.1.length<=10/\r.2.2.2.2.2.2.2.2.2.2.length<=200/\(∀x∈r.2.2.2.2.2.2.2.2.2.1,0<=x/\x<(U:Int))/\∀x∈r.2.2.2.2.2.2.2.2.2.2,0<=x/\x<(U:Int)
theorem Bd6{C U}{o}{q}(h:LK C U o q)(w)(a)(T:w.length<=100)(l:w.Nodup)(Q:0<=a)(g:∀c∈w,0<=c/\c<(C:Int)/\o[c.toNat]?=some a):DT (C9 (Alu w) (o,q,0)) (λ r=>LK C U r.1 r.2.1/\∀(k:Nat) (x:Int),o[k]?=some x->x≠a->r.1[k]?=some x):=by
 refine tL (λ s=>∃i:Nat,s.2.2=(i:Int)/\i<=w.length/\LK C U s.1 s.2.1/\(∀(j:Nat) x,i<=j->w[j]?=some x->s.1[x.toNat]?=some a)/\∀(k:Nat) (x:Int),o[k]?=some x->x≠a->s.1[k]?=some x) (λ s=>w.length - s.2.2.toNat) ⟨0,rfl,AQ,h,λ j x _ hx=>(g x (Bt hx)).2.2,λ k x hx _=>hx⟩ ?_;rintro ⟨V,W,_⟩ ⟨i,rfl,R,v,z,t⟩;refine tD (λ Dv=>tI AQ λ x hx m=>?_) λ _=>tS ⟨v,t⟩;rw[Be] at hx;obtain ⟨B,E,I⟩:=g x m;have Kl:=z i x (Bk _) hx;refine tB (N3 v x ⟨B,E⟩ (by rw[Kl];intro e;have:=Bf e;omega)) ?_;rintro _ ⟨rfl,H⟩;refine tS ⟨⟨i+1,C2 AQ AQ,AQ,H,λ j y S b=>?_,λ k y b f=>?_⟩,by dsimp only;rw[C2 AQ AQ];omega⟩
 . dsimp only;have p:=z j y AQ b;obtain ⟨K,N,_⟩:=g y (Bt b);rw[IT];exact p;intro e;have n:x=y:=AQ;have u:=Fq hx;have h2:=Fq b
   rw[Bp u] at hx;rw[Bp h2] at b;exact (List.pairwise_iff_getElem.1 l i j u h2 AQ) (by rw[Bf hx,Bf b,n])
 . dsimp only;rw[IT];exact t k y b f;intro e;have:=t k y b f;rw[<-e,Kl] at this;exact f (Bf this).symm
theorem L0{C B S U T}{d}(h:DW C B S U T d)(k:d.CP.length<=900)(Ly:d.DD=[])(e:d.DO.length<=10)(b:∀x∈d.DO,0<=x/\x<(U:Int))(l)(a:l=d.DO):DT (Option.bind (HG d) λ x=>some (x.1,x.2.1,x.2.2.1,x.2.2.2.1,x.2.2.2.2.1,x.2.2.2.2.2.1,x.2.2.2.2.2.2.1,x.2.2.2.2.2.2.2.1,x.2.2.2.2.2.2.2.2.1,l,x.2.2.2.2.2.2.2.2.2)) (Auv C B S U T d):=by
 subst a;refine tB (Aab h AQ (by rw[Ly];simp) (by rw[Ly];exact all_nil)) ?_;rintro ⟨m,n,o,p,q,r,s,t,u,Ir⟩ ⟨f,g,i,j⟩;dsimp only at g;exact tS ⟨f,AS,e,i,b,j⟩
theorem Bhj{C B S U T}{d}(h:DW C B S U T d)(x)(a)(w)(had)(he:d.CP.length<=10)(Ly:d.DD=[])(f:d.DO=[])(Z:w.length<=10)
   (h2:x.kind=2->0<=x.n/\x.n<(T:Int)) (h5:x.kind=5->0<=a.n/\a.n<(U:Int)) (h6:x.kind=6->0<=x.n/\∃u,d.CO[x.n.toNat]?=some u/\had.state=u.state):DT (OK d x a w had) (Auv C B S U T d):=by
 have OY:=h.k.ul;have h8:=h.k.k.u8
 have stay:∀e:Ak,e.length<=10000->Auv C B S U T d (d.CQ,d.CR,d.closed,d.Dp,d.C0,d.CO,d.CS,d.C7,e,d.DO,d.DD):=λ e h1=>⟨h.re _ _ e _ _ _,h1,by simp[f],by simp[Ly],by rw[f];exact all_nil,by rw[Ly];exact all_nil⟩;unfold OK;refine tD (λ _=>tB (Ft _ 21 a.n 0 AQ) λ e l=>tS (stay e (by have:=l.2;omega))) λ _=>tD (λ e=>?_) λ _=>tD (λ e=>?_) λ _=>tD (λ e=>?_) λ _=>tD (λ e=>?_) λ _=>L0 h AQ Ly (by simp[f]) (by rw[f];exact all_nil) _ rfl
 . refine tB (Aqb h x.n 4 22 (h2 e) AQ AQ) ?_;rintro ⟨x1,x2,R,x4,x5⟩ ⟨K,Q,k3,k4,k5,k6⟩;dsimp only at k6;exact tS ⟨K,AS,by simp[f],by simp[Ly],by rw[f];exact all_nil,by rw[Ly];exact all_nil⟩
 . refine tB (P:=λ r=>r.1.length<=20) (tL (λ s=>(s.1.length:Int)<=10+s.2/\0<=s.2/\s.2<=(w.length:Int)) (λ s=>((w.length:Int) - s.2).toNat) ⟨AR,AR,AR⟩ ?_) ?_
   . rintro ⟨e1,i⟩ ⟨K,Q,k3⟩;dsimp only at K;refine tD (λ Dv=>?_) λ _=>tS AR;rw[EN Q Dv AQ];refine tI AQ λ y _ _=>tB (Ft _ 20 y 0 AS) λ V l=>tS ?_;have:=l.2;exact AR
   . rintro ⟨e1,_⟩ K;dsimp only at K;exact L0 (h.re d.C7 d.DV e1 d.FG d.DO d.DD) AS Ly (by simp[f]) (by dsimp only;rw[f];exact all_nil) _ rfl
 . have a3:=h5 e;refine tI AQ λ u _ _=>tB (Ft _ 19 a.n u.Ev AQ) λ V l=>?_;exact L0 (h.re d.C7 d.DV V d.FG d.DO d.DD) AS Ly (by simp[f]) (by dsimp only;rw[f];exact all_nil) _ rfl
 . obtain ⟨a1,u,E,a4⟩:=h6 e;have H:0<=x.n/\x.n<(d.CO.length:Int):=by have:=Fq E;omega
   have HC:=h.k.uo u (Bt E);refine tI H λ v m _=>?_;obtain rfl:u=v:=by rw[E] at m;exact Bf m
   refine tD (λ V=>tB (Xj h.k.k x.n AQ) ?_) λ _=>tD (λ e0=>?_) λ _=>L0 h AQ Ly (by simp[f]) (by rw[f];exact all_nil) _ rfl
   . rintro ⟨c,er⟩ ⟨W,XS,Y⟩;dsimp only at W;have NN:=h.k.k.O4;refine tB (Bd6 h.k.k c x.n AQ XS a1 Y) ?_;rintro ⟨o',q',_⟩ ⟨K,Q⟩;refine tJ H ?_;simp only[Cr];refine tB (Zs _ x.n {u with cell:=-1,Ff:=-1} AS (by dsimp only;rw[List.length_set];exact H) (by dsimp only;exact gs (AQ))) ?_;rintro ⟨y1,y2⟩ ⟨p,I⟩;dsimp only at I;rw[Cr] at p;subst p;have q:u.DY<0:=Int.not_le.1 λ g=>by have:=(h.t.b _ u E g).1;omega
     have kd:DW C B S U T {d with CQ:=o',CR:=q',CO:=d.CO.set x.n.toNat {u with cell:=-1,Ff:=-1,state:=3,Ev:=-2},CP:=y2,DO:=d.DO++[x.n]}:=
       ⟨⟨h.k.n,K,h.k.s,by simpa using OY,ES h.k.uo ⟨AS,AS,AS,HC.tk,HC.rt,HC.rl,λ g=>by dsimp only at g;omega⟩,h.k.tl,h.k.t32,h.k.to⟩,
         h.o.free (λ w Z a0=>⟨(h.k.uo w Z).ac a0,(h.k.uo w Z).tt.1⟩) _ E AS o' (λ k z hz EH=>Q k z hz AQ),
         h.t.Ang E q AS (by intro g;dsimp only at g;omega) (by intro g;dsimp only at g;omega)⟩
     refine tG (by rw[f];simp) λ _=>?_;exact L0 kd AS Ly (by dsimp only;rw[f];simp) (by dsimp only;rw[f];exact ND (AQ)) _ rfl
   . refine tB (Aln h x.n AQ AQ) ?_;rintro ⟨x1,x2,R,x4⟩ ⟨⟨N,q2,q3,q4⟩,q5⟩;dsimp only at q4;have a2:R.length=U:=N.k.ul;obtain ⟨v,m⟩:∃v,R[x.n.toNat]?=some v:=⟨_,Bp AQ⟩;obtain ⟨u2,MT,hc⟩:=Lm q5 m;rw[E] at MT;cases MT;obtain ⟨c1,c2,c3,c4,c5⟩:=NB hc;refine tB (Zs _ x.n v AS AS m) ?_;rintro ⟨y1,y2⟩ ⟨p,I⟩;dsimp only at I;subst p;have j:=N.k.uo v (Bt m);have q:v.DY<0:=Int.not_le.1 λ g=>by have:=(N.t.b _ v m g).1;omega
     have kd:DW C B S U T {d with CQ:=x1,CR:=x2,CO:=R.set x.n.toNat {v with state:=3,Ev:=-2},CP:=y2}:=
       ⟨⟨h.k.n,N.k.k,h.k.s,by simpa using a2,ES N.k.uo ⟨AS,j.ce,j.tt,j.tk,j.rt,j.rl,λ g=>by dsimp only at g;omega⟩,h.k.tl,h.k.t32,h.k.to⟩,
         N.o.Anf _ m (Or.inr AS) rfl rfl,
         N.t.Ang m q AS (by intro g;dsimp only at g;omega) (by intro g;dsimp only at g;omega)⟩
     exact L0 kd AS Ly (by dsimp only;rw[f];simp) (by dsimp only;rw[f];exact all_nil) _ rfl
theorem LK.up{C U V}{o}{q}(h:LK C U o q)(e:U<=V)(a:V<=8):LK C V o q:=
 ⟨h.ol,h.ql,h.O4,a,λ x hx=>by have:=h.ow x hx;omega,λ r b x hx=>by have:=h.qr r b x hx;omega,h.nd,h.no⟩
theorem VM.up{C S T V}{u}(h:VM C S T u)(a:T<=V):VM C S V u:=⟨h.hm,h.ce,h.tt,by have:=h.tk;omega,h.rt,h.rl,h.ac⟩
theorem TOK.up{S U V}{t}(h:TOK S U t)(a:U<=V):TOK S V t:=⟨h.pk,h.dr,λ e=>by have:=h.rb e;omega⟩
theorem Tz{α:Type}{l}{x y:α}{i:Nat}(h:(l++[y])[i]?=some x):l[i]?=some x∨(i=l.length/\x=y):=by
 rw[BY] at h;split at h
 . exact Or.inl h
 . rename_i Dv;have:i - l.length=0:=by
     have:=Fq h;simp at this;omega
   rw[this] at h;exact Or.inr ⟨AQ,by simpa using h.symm⟩
theorem Ac9{α:Type}{l}{x y:α}{i:Nat}(h:l[i]?=some x):(l++[y])[i]?=some x:=by
 rw[Cv (Fq h)];exact h
theorem DW.Byv{C B S U T}{d}(h:DW C B S U T d)(v)(r:VM C S T v)(q:U+1<=8)(h0:v.state=0)(m:v.Ff=-1)(h2:v.DY<0):DW C B S (U+1) T {d with CO:=d.CO++[v]}:=by
 have OY:=h.k.ul;refine ⟨⟨h.k.n,h.k.k.up AQ q,h.k.s,by dsimp only;rw[List.length_append,OY];rfl,Es h.k.uo r,h.k.tl,h.k.t32,λ t l=>(h.k.to t l).up AQ⟩,?_,⟨?_,?_,?_,?_⟩⟩
 . intro i u e g;rcases Tz e with e | ⟨_,rfl⟩
   . exact h.o i u e g
   . omega
 . intro j t l g;obtain ⟨u,e,p⟩:=h.t.a j t l g;exact ⟨u,Ac9 e,p⟩
 . intro i u e f;rcases Tz e with e | ⟨_,rfl⟩
   . exact h.t.b i u e f
   . omega
 . intro i u e f;rcases Tz e with e | ⟨_,rfl⟩
   . exact h.t.c i u e f
   . omega
 . intro i u e f;rcases Tz e with e | ⟨_,rfl⟩
   . exact h.t.d i u e f
   . exact m
theorem DW.Byw{C B S U T}{d}(h:DW C B S U T d)(t)(p:TOK S U t)(R8:T+1<=32)(h0:t.state=0):DW C B S U (T+1) {d with CS:=d.CS++[t]}:=by
 have R6:=h.k.tl;refine ⟨⟨h.k.n,h.k.k,h.k.s,h.k.ul,λ u e=>(h.k.uo u e).up AQ,by dsimp only;rw[List.length_append,R6];rfl,R8,Es h.k.to p⟩,h.o,⟨?_,?_,h.t.c,h.t.d⟩⟩
 . intro j x hx m;rcases Tz hx with hx | ⟨_,rfl⟩
   . exact h.t.a j x hx m
   . omega
 . intro i u e l;obtain ⟨f,h2,y,q,g⟩:=h.t.b i u e l;exact ⟨f,h2,y,Ac9 q,g⟩
theorem Bhq{C B S U T}{n}{d}(h:DW C B S U T d)(hn:NW C B S n)(l)(I:l.CO.length=U∨(U+1<=8/\l.CO.length=U+1/\∃w,l.CO[U]?=some w/\0<=w.Ev/\w.Ev<(S:Int))):DT (C9 (Fb n l) (d.CO,0)) (λ r=>DW C B S l.CO.length T {d with CO:=r.1}/\∀(k:Nat) u,d.CO[k]?=some u->∃w,r.1[k]?=some w/\u.state=w.state):=by
 have h8:=h.k.k.u8;have Ut:=hn.ns
 refine tL (λ s=>∃i V:Nat,s.2=(i:Int)/\i<=l.CO.length/\DW C B S V T {d with CO:=s.1}/\(i<=U->V=U)/\(U<i->V=U+1)/\∀(k:Nat) u,d.CO[k]?=some u->∃w,s.1[k]?=some w/\u.state=w.state) (λ s=>l.CO.length - s.2.toNat) ⟨0,U,rfl,AQ,h,λ _=>rfl,λ E=>AQ,λ k u a=>⟨u,a,rfl⟩⟩ ?_;rintro ⟨v,_⟩ ⟨i,V,rfl,hi,H,k2,k3,Q⟩;have N:v.length=V:=H.k.ul;refine tD (λ Dv=>?_) λ _=>tS ?_;rotate_left
 . have:V=l.CO.length:=by rcases I with e | ⟨_,e,_⟩<;>by_cases c:i<=U<;>omega
   subst this;exact ⟨H,Q⟩
 rw[EN AQ Dv AQ];have iU:i<=U:=by rcases I with e | ⟨_,e,_⟩<;>omega
 obtain rfl:=k2 iU;have lv:∀(W:Nat) (f:Ag) (u:KP) (b:Bool),DW C B S W T {d with CO:=f}->f[i]?=some u->(∀(k:Nat) u,d.CO[k]?=some u->∃w,f[k]?=some w/\u.state=w.state)->DW C B S W T {d with CO:=f.set i {u with Fc:=b}}/\∀(k:Nat) x,d.CO[k]?=some x->∃w,(f.set i {u with Fc:=b})[k]?=some w/\x.state=w.state:=by
   intro W f u b q a hk;have HC:=q.k.uo u (Bt a);have Z:(f.set i {u with Fc:=b}).map core=f.map core:=D3 a rfl;refine ⟨⟨q.k.N8 i _ (HC.same _ rfl rfl rfl rfl rfl HC.rt HC.rl),q.o.core Z,q.t.core Z⟩,λ k x hx=>?_⟩;obtain ⟨w,p,g⟩:=hk k x hx;by_cases e:i=k
   . subst e;rw[a] at p;cases p;exact ⟨_,gs (Fq a),g⟩
   . exact ⟨w,by rw[IT e];exact p,g⟩
 refine tD (λ heq=>?_) λ EH=>?_
 . rcases I with e | ⟨u8,e,w,p,a0⟩
   . omega
   have m:i=V:=AQ;subst m;refine tI AQ λ y hy _=>?_;rw[Be,p] at hy;cases hy;refine tI AQ λ s _ g=>tG AQ λ _=>?_;have XH:=hn.sp s g;have K:=H.Byv ⟨0,false,w.Ev,-1,-1,0,false,false,-1,0,[s.base],0,0⟩ ⟨AS,AS,AS,AS,ND AQ,AT,λ E=>by dsimp only at E;omega⟩ u8 rfl rfl AS;have Ds:(v++[(⟨0,false,w.Ev,-1,-1,0,false,false,-1,0,[s.base],0,0⟩:KP)])[i]?=some ⟨0,false,w.Ev,-1,-1,0,false,false,-1,0,[s.base],0,0⟩:=by rw[CI AQ,N];simp
   obtain ⟨R,Y⟩:=lv (i+1) _ _ w.Fc K Ds (λ k u a=>by obtain ⟨x,hx,g⟩:=Q k u a;exact ⟨x,Ac9 hx,g⟩);refine tI AW λ z j _=>tS ⟨⟨i+1,i+1,AT,AQ,?_,λ E=>AQ,λ _=>rfl,?_⟩,AS⟩
   . rw[Be,Ds] at j;cases j;exact R
   . rw[Be,Ds] at j;cases j;exact Y
 . have m:i<V:=AQ;refine tI AQ λ y _ _=>tI AQ λ z j _=>tS ?_;obtain ⟨R,Y⟩:=lv V v z y.Fc H j Q;exact ⟨⟨i+1,V,AT,AQ,by rw[Be];exact R,λ _=>rfl,λ E=>AQ,by rw[Be];exact Y⟩,AS⟩
theorem Abv{C B S U T}{n}{c}(H:NW C B S n)(h:CW C B S U T n c)(x):DT (K5 n c x) (λ r=>r.2.2.2=0/\∃V W:Nat,U<=V/\CW C B S V W n r.1/\OO V r.2.2.1):=by
 have OY:c.CO.length=U:=h.k.ul;have R6:c.CS.length=T:=h.k.tl;unfold K5;rw[H.vd,Bd,Bm];refine tB (MB h) ?_;intro c' K;rw[K];refine tB (Bbu h) λ m hm=>tB (Awl H hm.1 x) ?_;rintro ⟨l,a⟩ f;have ds:=f.s;have dt:=f.t;have Y:=f.u;have dc:=f.c;have dr:=f.r;have da:=f.a
 dsimp only at*;refine tB (Ft _ 1 a.kind a.n AT) λ e he=>?_;have N:=he.2;dsimp only[List.length_nil] at N;refine tD (λ E=>?_) λ _=>tS ⟨rfl,U,T,Bk _,h,⟨AT,AS,AT,AT,AT,all_nil,all_nil,all_nil,all_nil⟩⟩;have fin:∀(W:Nat) (I:Ao) (b:KP),(∀i:Ag,DW C B S l.CO.length T {n with CQ:=c.CQ,CR:=c.CR,closed:=c.closed,Dp:=c.Dp,C0:=c.C0,CO:=i,CS:=c.CS,C7:=c.C7,DV:=[],CP:=[],FG:=[],DO:=[],DD:=[]}->DW C B S l.CO.length W {n with CQ:=c.CQ,CR:=c.CR,closed:=c.closed,Dp:=c.Dp,C0:=c.C0,CO:=i,CS:=I,C7:=c.C7,DV:=[],CP:=[],FG:=[],DO:=[],DD:=[]})->(x.kind=2->0<=x.n/\x.n<(W:Int))->(x.kind=6->∃u,c.CO[x.n.toNat]?=some u/\b=u)->
     DT (Option.bind (C9 (Fb n l) (c.CO,0)) λ v=>Option.bind (E9 n x.a) λ w=>Option.bind (OK {n with CQ:=c.CQ,CR:=c.CR,closed:=l.closed,Dp:=l.Dp,C0:=l.C0,CO:=v.1,CS:=I,C7:=c.C7,DV:=[],CP:=e,FG:=[],DO:=[],DD:=[]} x a w b) λ y=>some ((⟨y.1,y.2.1,y.2.2.1,y.2.2.2.1,y.2.2.2.2.1,y.2.2.2.2.2.1,y.2.2.2.2.2.2.1,y.2.2.2.2.2.2.2.1⟩:Lo),a,(⟨[],y.2.2.2.2.2.2.2.2.1,[],y.2.2.2.2.2.2.2.2.2.1,y.2.2.2.2.2.2.2.2.2.2⟩:Ni),(0:Int))) (λ r=>r.2.2.2=0/\∃V W:Nat,U<=V/\CW C B S V W n r.1/\OO V r.2.2.1):=by
   intro W I b hW h2 z;refine tB (Bhq h H l ?_) ?_
   . rcases Y with e | ⟨u1,_,u3,_,u5⟩
     . exact Or.inl e
     . exact Or.inr ⟨u1,u3,u5⟩
   rintro ⟨i,_⟩ ⟨k1,k2⟩;refine tB (Ajm H x.a) λ w hw=>?_;have g:=hW i k1;have R:DW C B S l.CO.length W {n with CQ:=c.CQ,CR:=c.CR,closed:=l.closed,Dp:=l.Dp,C0:=l.C0,CO:=i,CS:=I,C7:=c.C7,DV:=[],CP:=e,FG:=[],DO:=[],DD:=[]}:=⟨⟨g.k.n,g.k.k,ds,g.k.ul,g.k.uo,g.k.tl,g.k.t32,g.k.to⟩,g.o,g.t⟩;refine tB (Bhj R x a w b AS rfl rfl hw.1 h2 (λ e5=>by have:=da E e5;omega) (λ j=>⟨(dr E j).1,?_⟩)) ?_
   . obtain ⟨u,Q,rfl⟩:=z j;exact k2 _ _ Q
   . rintro ⟨y1,y2,y3,y4,y5,y6,y7,y8,y9,a2,a3⟩ ⟨z1,z2,z3,z4,z5,z6⟩;dsimp only at*;refine tS ⟨rfl,l.CO.length,W,?_,z1.re y8 [] [] [] [] [],⟨AT,AS,AT,AS,AS,all_nil,all_nil,z5,z6⟩⟩;rcases Y with e | ⟨u1,_,u3,_,u5⟩<;>omega
 have Bt8:∀b:KP,(x.kind=6->∃u,c.CO[x.n.toNat]?=some u/\b=u)->DT (cond (decide (((c.CS.length:Nat):Int)<((l.CS.length:Nat):Int))) (Option.bind (CU l.CS (i64.wrap (((l.CS.length:Nat):Int) - 1))) λ t=>cond (decide (c.CS.length+1<10000000)) (Option.bind (C9 (Fb n l) (c.CO,0)) λ v=>Option.bind (E9 n x.a) λ w=>Option.bind (OK {n with CQ:=c.CQ,CR:=c.CR,closed:=l.closed,Dp:=l.Dp,C0:=l.C0,CO:=v.1,CS:=c.CS++[t],C7:=c.C7,DV:=[],CP:=e,FG:=[],DO:=[],DD:=[]} x a w b) λ y=>some ((⟨y.1,y.2.1,y.2.2.1,y.2.2.2.1,y.2.2.2.2.1,y.2.2.2.2.2.1,y.2.2.2.2.2.2.1,y.2.2.2.2.2.2.2.1⟩:Lo),a,(⟨[],y.2.2.2.2.2.2.2.2.1,[],y.2.2.2.2.2.2.2.2.2.1,y.2.2.2.2.2.2.2.2.2.2⟩:Ni),(0:Int))) none) (Option.bind (C9 (Fb n l) (c.CO,0)) λ v=>Option.bind (E9 n x.a) λ w=>Option.bind (OK {n with CQ:=c.CQ,CR:=c.CR,closed:=l.closed,Dp:=l.Dp,C0:=l.C0,CO:=v.1,CS:=c.CS,C7:=c.C7,DV:=[],CP:=e,FG:=[],DO:=[],DD:=[]} x a w b) λ y=>some ((⟨y.1,y.2.1,y.2.2.1,y.2.2.2.1,y.2.2.2.2.1,y.2.2.2.2.2.1,y.2.2.2.2.2.2.1,y.2.2.2.2.2.2.2.1⟩:Lo),a,(⟨[],y.2.2.2.2.2.2.2.2.1,[],y.2.2.2.2.2.2.2.2.2.1,y.2.2.2.2.2.2.2.2.2.2⟩:Ni),(0:Int)))) (λ r=>r.2.2.2=0/\∃V W:Nat,U<=V/\CW C B S V W n r.1/\OO V r.2.2.1):=by
   intro b z;refine tD (λ Dv=>?_) λ a0=>?_
   . rcases dt with e1 | ⟨t1,t2,t3,p,q,t4,t5⟩
     . omega
     rw[C2 AQ AQ];refine tI AQ λ t ht _=>?_;rw[show (((l.CS.length:Nat):Int) - 1).toNat=T by omega,t4] at ht;cases ht;refine tG AQ λ _=>fin (T+1) (c.CS++[⟨p,q,0,-1,0⟩]) b (λ i f=>f.Byw _ ⟨AS,AS,λ hh=>by dsimp only at hh;omega⟩ t1 rfl) (λ Z=>AQ) z
   . exact fin T c.CS b (λ i f=>f) (λ Z=>dc E Z) z
 refine tD (λ j=>?_) λ n6=>Bt8 _ (λ j=>absurd j n6);have a1:=dr E j;refine tI AQ λ u Q _=>Bt8 u (λ _=>⟨u,Q,rfl⟩)
theorem Xy(f):DT (IJ f) (λ r=>r=true->0<=f.CZ/\f.CZ<8):=by
 unfold IJ;have g:DT (JX f.kind) (λ _=>True):=by
   unfold JX;exact tD (λ _=>tS trivial) λ _=>tD (λ _=>tS trivial) λ _=>tS trivial
 refine tB g λ _ _=>tC (λ _=>tD (λ _=>tS (λ e=>by cases e)) λ i=>tD (λ _=>tS (λ e=>by cases e)) λ h2=>?_) λ _=>tS (λ e=>by cases e);have a:∀b:Bool,b=true->0<=f.CZ/\f.CZ<8:=λ _ _=>AQ;exact tD (λ _=>tS (a _)) λ _=>tD (λ _=>tS (a _)) λ _=>tD (λ _=>tS (a _)) λ _=>tD (λ _=>tS (a _)) λ _=>tD (λ _=>tS (a _)) λ _=>tD (λ _=>tS (a _)) λ _=>tD (λ _=>tS (a _)) λ _=>tS (a _)
theorem CW.N8{C B S U T}{n}{c}(h:CW C B S U T n c){i}{u}(v)(e:c.CO[i]?=some u)(b:core v=core u)(f:VM C S T v):CW C B S U T n {c with CO:=c.CO.set i v}:=by
 have a:(c.CO.set i v).map core=c.CO.map core:=D3 e b;exact ⟨h.k.N8 i v f,h.o.core a,h.t.core a⟩
theorem Amu{C B S U T}{n}{c}(y:NW C B S n)(h:CW C B S U T n c)(f):DT (LM n c f) (λ r=>r.2.2=0/\CW C B S U T n r.1/\OO U r.2.1):=by
 have OY:c.CO.length=U:=h.k.ul;unfold LM;rw[y.vd,Bd,Bm];refine tB (MB h) ?_;intro Q i;rw[i];have stay:DT (some (c,(⟨[],[],[],[],[]⟩:Ni),(0:Int))) (λ r=>r.2.2=0/\CW C B S U T n r.1/\OO U r.2.1):=tS ⟨rfl,h,OO.nil⟩;refine tB (Xy f) λ b hb=>tC (λ e=>tD (λ _=>stay) λ _=>tD (λ _=>stay) λ Dv=>?_) λ _=>stay;have R:=hb e;have a:0<=f.CZ/\f.CZ<(c.CO.length:Int):=AQ;refine tI a λ u j UY=>tD (λ z=>tI a λ v o _=>?_) λ _=>stay;obtain rfl:u=v:=by rw[j] at o;exact Bf o
 have HC:=h.k.uo u UY;refine tD (λ _=>tD (λ _=>tD (λ _=>tS ⟨rfl,h.N8 {u with LF:=true} j rfl (HC.same _ rfl rfl rfl rfl rfl HC.rt HC.rl),OO.nil⟩) λ _=>stay) λ _=>stay) λ _=>tD (λ _=>stay) λ _=>?_;have m:∀e:Ak,e.length<=30000->OO U ⟨[{f with kind:=3,cell:=0}],e,[],[],[]⟩:=λ e t=>⟨AT,t,AT,AT,AT,ND AS,all_nil,all_nil,all_nil⟩;refine tD (λ _=>?_) λ _=>tS ⟨rfl,h,m [] AT⟩;have s:DW C B S U T {n with CQ:=c.CQ,CR:=c.CR,closed:=c.closed,Dp:=c.Dp,C0:=c.C0,CO:=c.CO,CS:=c.CS,C7:=c.C7,DV:=[{f with kind:=3,cell:=0}],CP:=[],FG:=[],DO:=[],DD:=[]}:=h.re _ _ _ _ _ _;refine tB (Aqj s f.CZ u AQ j z) ?_;rintro ⟨W,Z,g⟩ ⟨l,V⟩;refine tD (λ _=>?_) λ _=>tS ⟨rfl,l.re _ _ _ _ _ _,m [] AT⟩;have x:g.length=U:=l.k.ul;obtain ⟨w,E⟩:∃w,g[f.CZ.toNat]?=some w:=⟨_,Bp AQ⟩;refine tB (Aq6 l f.CZ w AQ E AT) ?_;rintro ⟨Y,q2,N,K,q⟩ ⟨p,H,I⟩;dsimp only[List.length_nil] at p H I ⊢;exact tS ⟨rfl,p.re _ _ _ _ _ _,m q AQ⟩
theorem Ajz{C B S U T}{n}{c}(i:NW C B S n)(h:CW C B S U T n c)(a)(g:0<=a/\a<(U:Int)):DT (NX n c a) (λ r=>r.2.2=0/\CW C B S U T n r.1/\OO U r.2.1):=by
 have OY:c.CO.length=U:=h.k.ul;unfold NX;rw[i.vd,Bd,Bm];refine tD (λ h=>AQ) λ _=>tD (λ h=>AQ) λ _=>tB (MB h) ?_;intro o b;rw[b];refine tI AQ λ u q _=>tD (λ p=>tB (Aj5 (h.re c.C7 [] [] [] [] []) [a] AT (ND g) AT) ?_) λ _=>tS ⟨rfl,h,OO.nil⟩;rintro ⟨x,y,z,E,H,I,K,N⟩ ⟨e,f,v,w⟩;unfold Arb toD at e;unfold toD at f;dsimp only[List.length_nil] at e f ⊢;refine tB (Aab e AS AT all_nil) ?_;rintro ⟨Q,R,V,W,Y,Z,y7,y8,y9,m⟩ ⟨j,s,t,l⟩;dsimp only at*;exact tS ⟨rfl,j.re _ _ _ _ _ _,⟨AT,AS,AT,AT,AS,all_nil,all_nil,all_nil,l⟩⟩
theorem W8{C B S U T}{n}{c}(g:NW C B S n)(h:CW C B S U T n c)(a):DT (LL n c a) (λ r=>OO U r.1):=by
 have OY:c.CO.length=U:=h.k.ul;unfold LL;rw[g.vd,Bd,Bm];refine tD (λ _=>tS OO.nil) λ _=>tD (λ _=>tS OO.nil) λ _=>tI AQ λ u _ _=>tD (λ _=>tD (λ _=>tS OO.nil) λ _=>tC (λ _=>tS OO.nil) λ _=>?_) λ _=>tS OO.nil;obtain ⟨f,b,e,_⟩:=Bi5 {u with LF:=false} a;exact tT b (tS ⟨AT,AT,AT,AT,AT,ND (by rw[e];omega),all_nil,all_nil,all_nil⟩)
theorem Afk(l)(f):DT (Kz l f) (λ r=>r.length<=6):=by
 unfold Kz;refine tD (λ _=>tS AT) λ _=>tG AQ λ _=>tD (λ _=>tG AQ λ _=>tS ?_) λ _=>tS AQ;rw[Bw];simp only[Br,Bz];omega
theorem Ai0(l)(a):DT (Kw l a) (λ r=>r=true->l.length<=6/\0<=a/\a<(l.length:Int)):=by
 unfold Kw;exact tD (λ _=>tD (λ _=>tS (λ e=>by have:=Bg e;omega)) λ _=>tS (λ e=>by cases e)) λ _=>tS (λ e=>by cases e)
theorem Yz(l)(a):DT (K9 l a) (λ r=>r.2.2=true->r.2.1.length<=6):=by
 unfold K9;refine tB (Ai0 l a) λ b hb=>tC (λ e=>?_) λ _=>tS (λ e=>by cases e);have h:=hb e;rw[C2 AQ AQ];refine tI AQ λ x _ _=>tG AQ λ _=>tG AQ λ _=>tG (by rw[BJ];omega) λ _=>tG (by simp only[BJ,List.length_drop];omega) λ _=>tS (λ _=>?_);simp only[Bw,BJ,List.length_drop];omega
theorem Yw(l)(a):DT (KA l a) (λ r=>r.2=true->r.1.length<=6):=by
 unfold KA;refine tB (Yz l a) ?_;rintro ⟨x,y,z⟩ h;exact tS h
theorem Abm(l)(a):DT (ME l a) (λ r=>r.2=true->r.1.length<=6):=by
 unfold ME;refine tB (Ai0 l a) λ b hb=>tC (λ e=>tI (hb e).2 λ x _ _=>tB (Afk l x) λ y f=>tS (λ _=>f)) λ _=>tS (λ e=>by cases e)
theorem OR(b):DT (Fm b) (λ _=>True):=by
 unfold Fm;exact tD (λ _=>tS trivial) λ _=>tD (λ _=>tC (λ _=>tS trivial) λ _=>tS trivial) λ _=>tS trivial
theorem Au4{C B S}{n}(h:NW C B S n)(b)(a c):DT (Jc n b a c) (λ _=>True):=by
 unfold Jc;refine tD (λ _=>tS trivial) λ _=>tD (λ _=>tB (OR b) λ _ _=>tC (λ _=>tB (Aak h b.cell c) λ _ _=>tS trivial) λ _=>tS trivial) λ _=>tD (λ _=>tD (λ _=>tS trivial) λ _=>tD (λ _=>tS trivial) λ _=>tS trivial) λ _=>tD (λ _=>tB (OR b) λ _ _=>tS trivial) λ _=>tD (λ _=>tD (λ _=>tS trivial) λ _=>tC (λ _=>tS trivial) λ _=>tS trivial) λ _=>tD (λ _=>tS trivial) λ _=>tD (λ _=>tS trivial) λ _=>tB (OR b) λ _ _=>tC (λ _=>tS trivial) λ _=>tS trivial
theorem Akn{C B S}{n}(h:NW C B S n)(l)(a b c)(g:l.length<=1000):DT (NS n l a b c) (λ r=>r.1.length=l.length):=by
 unfold NS;have f:DT (Xo n l a b c) (λ r=>r.2=0->r.1.length=l.length):=by
   unfold Xo;refine tD (λ _=>tS (λ e=>by dsimp only at e;omega)) λ _=>tD (λ _=>tS (λ e=>by dsimp only at e;omega)) λ _=>tD (λ _=>tS (λ e=>by dsimp only at e;omega)) λ _=>tD (λ _=>tS (λ e=>by dsimp only at e;omega)) λ _=>tI AQ λ x _ _=>tB (Au4 h x b c) ?_;rintro ⟨y,i⟩ _;exact tC (λ _=>tG AQ λ _=>tS (λ _=>AT)) λ _=>tS (λ e=>by dsimp only at e;omega)
 refine tB f ?_;rintro ⟨x,e⟩ hx;exact tD (λ e=>tS (hx e)) λ _=>tS rfl
theorem Aut(a)(r)(f):DT (Qb a r f) (λ x=>x.2.length<=1):=by
 unfold Qb;refine tB (Xy f) λ _ _=>tC (λ _=>tD (λ _=>tD (λ _=>?_) λ _=>tD (λ _=>tD (λ _=>tS AT) λ _=>tD (λ _=>tD (λ _=>tS AT) λ _=>tS AT) λ _=>tS AT) λ _=>tS AT) λ _=>tS AT) λ _=>tS AT;unfold Mk;exact tD (λ _=>tS AT) λ _=>tS AT
theorem Acr(a)(r):∃l,Hk a r=some l/\l.length=1:=⟨_,rfl,rfl⟩
theorem Bc8(a)(r)(b):DT (N6 a r b) (λ x=>x.length<=1):=by
 unfold N6;obtain ⟨l,e,h2⟩:=Acr a r;exact tD (λ _=>tS AT) λ _=>tC (λ _=>tS AT) λ _=>tT e (tS AQ)
theorem Bc3{C B S}{n}(h:NW C B S n)(a)(r)(b):DT (Jg n a r b) (λ x=>x.2.2.length<=1):=by
 unfold Jg;refine tD (λ _=>tS AT) λ _=>tC (λ _=>tS AT) λ _=>tD (λ _=>tB (OR _) λ _ _=>tC (λ _=>tD (λ _=>tS AT) λ _=>tB (Aak h b.cell a.Ff) λ _ _=>tC (λ _=>tS AT) λ _=>tS AT) λ _=>tS AT) λ _=>tC (λ _=>?_) λ _=>?_;all_goals
   obtain ⟨l,e,h2⟩:=Acr (⟨a.last,-1,a.serve,1,b.Ff⟩:WR) r;exact tT e (tS AS)
theorem Blg(a)(r)(b):DT (N5 a r b) (λ x=>x.2.2.length<=1):=by
 unfold N5;refine tD (λ _=>tS AT) λ _=>tC (λ _=>tC (λ _=>tS AT) λ _=>?_) λ _=>tS AT;obtain ⟨l,e,h2⟩:=Acr ({a with Ix:=2,cell:=b.cell}:WR) r;exact tT e (tS AS)
theorem Bj9(U)(a:Int)(l:Aw)(up:Aj)(j:up.length=U)(g:∀x∈up,x.length<=6)(n:0<=a/\a<(U:Int))(o:l.length<=1000):DT (C9 (Atb a l) (up,0)) (λ r=>r.1.length=U/\∀x∈r.1,x.length<=6):=by
 refine tL (λ s=>(s.1.length=U/\∀x∈s.1,x.length<=6)/\0<=s.2/\s.2<=(l.length:Int)) (λ s=>((l.length:Int) - s.2).toNat) ⟨⟨j,g⟩,AR,AR⟩ ?_;rintro ⟨v,i⟩ ⟨⟨b,e⟩,m,p⟩;dsimp only at b;refine tD (λ Dv=>?_) λ _=>tS ⟨b,e⟩;rw[EN m Dv AQ];exact tI AQ λ x _ _=>tI AQ λ f _ _=>tB (Afk x f) λ y k=>tS ⟨⟨⟨by dsimp only;rw[List.length_set];exact b,ES e k⟩,AR,AR⟩,AR⟩
structure FQ(U:Nat)(bo:Ax)(ag:Az)(dn up:Aj):Prop where
 b:bo.length=U
 a:ag.length=U
 dl:dn.length=U
 ul:up.length=U
 d6:∀x∈dn,x.length<=6
 u6:∀x∈up,x.length<=6
theorem Avk{U}(f)(h:FQ U f.CX f.CY f.down f.up)(a)(l)(g:0<=a/\a<(U:Int))(j:l.length<=1000):DT (Qx f a l) (λ r=>FQ U f.CX f.CY f.down r):=by
 unfold Qx;exact tB (Bj9 U a l f.up h.ul h.u6 g j) λ ⟨v,i⟩ e=>tS ⟨h.b,h.a,h.dl,e.1,h.d6,e.2⟩
theorem Ae7(f)(a b c)(h:f.Hi.length<=1000000):DT (PS f a b c) (λ r=>r.length=f.Hi.length+1):=by
 unfold PS;exact tG AQ λ _=>tS AT
def GI.net(f:GI):Nt:=⟨f.blocks,f.next,f.CV,f.C8,f.cq,f.ca,f.cd,f.cp⟩
theorem L6{C B S U}{n}(w:NW C B S n)(f)(W:f.net=n)(h:FQ U f.CX f.CY f.down f.up)(h8:U<=8)(o)(k:OO U o)(hl:f.Hi.length<=500000):DT (GX f o) (λ r=>FQ U r.1 r.2.1 r.2.2.1 r.2.2.2.1/\r.2.2.2.2.length<=f.Hi.length+35000):=by
 have u:NW C B S f.net:=W ▸ w;have e1:=k.el;have e2:=k.ll;have e3:=k.pl;have e4:=k.fl;have e5:=k.sl
 unfold GX;refine tG AQ λ _=>tB (P:=λ r=>r.2.1.length=U/\r.1.length<=f.Hi.length+31000) (tL (λ s=>s.2.1.length=U/\(s.1.length:Int)<=f.Hi.length+30000+s.2.2/\0<=s.2.2/\s.2.2<=(o.DO.length:Int)) (λ s=>((o.DO.length:Int) - s.2.2).toNat) ⟨h.b,by dsimp only;rw[List.length_append];omega,AR,AR⟩ ?_) ?_
 . rintro ⟨E,j,i⟩ ⟨I,k2,k3,k4⟩;dsimp only at*;refine tD (λ Dv=>?_) λ _=>tS AR;rw[EN k3 Dv AQ];refine tI AQ λ x _ _=>tB (Akn u j x 6 0 AQ) ?_;rintro ⟨H,N⟩ l;refine tB (Ae7 _ 18 x 0 AS) λ l2 t=>tS ?_;exact AR
 rintro ⟨E,j,_⟩ ⟨I,k2⟩;refine tB (P:=λ r=>FQ U r.2.2.2.2.1 r.1 r.2.1 r.2.2.1/\r.2.2.2.1.length<=f.Hi.length+35000) (tL (λ s=>FQ U s.2.2.2.2.1 s.1 s.2.1 s.2.2.1/\(s.2.2.2.1.length:Int)<=f.Hi.length+31000+s.2.2.2.2.2/\0<=s.2.2.2.2.2/\s.2.2.2.2.2<=(o.FG.length:Int)) (λ s=>((o.FG.length:Int) - s.2.2.2.2.2).toNat) ⟨⟨I,h.a,h.dl,h.ul,h.d6,h.u6⟩,AR,AR,AR⟩ ?_) ?_
 . rintro ⟨Q,T,up,E,j,i⟩ ⟨e,K,m3,m4⟩;dsimp only at*;have w1:=e.a;have w2:=e.dl;have w3:=e.ul;have w4:=e.b
   refine tD (λ Dv=>?_) λ _=>tS ⟨e,AR⟩;rw[EN m3 Dv AQ];refine tI AQ λ g _ Y=>tB (Akn u j g.CZ 0 g.cell AQ) ?_;have Z:=k.pr g Y;rintro ⟨H,N⟩ l;dsimp only;unfold Im;refine tI AQ λ _ _ _=>tI AQ λ _ _ _=>tI AQ λ _ _ _=>tB (Ae7 _ 17 g.CZ g.cell AS) λ l2 t=>tS ⟨⟨⟨?_,?_,?_,?_,?_,?_⟩,?_,?_,?_⟩,?_⟩;all_goals (try dsimp only at*)
   . omega
   . rw[Bv];omega
   . rw[Bv];omega
   . rw[Bv];omega
   . exact ES e.d6 AT
   . exact ES e.u6 AT
   all_goals omega
 rintro ⟨Q,T,up,E,j,_⟩ ⟨e,K⟩;refine tB (P:=λ r=>r.1.length=U/\∀x∈r.1,x.length<=6) (tL (λ s=>(s.1.length=U/\∀x∈s.1,x.length<=6)/\0<=s.2/\s.2<=(o.DV.length:Int)) (λ s=>((o.DV.length:Int) - s.2).toNat) ⟨⟨e.dl,e.d6⟩,AR,AR⟩ ?_) ?_
 . rintro ⟨v,i⟩ ⟨⟨m,p⟩,p3,p4⟩;dsimp only at m;refine tD (λ Dv=>?_) λ _=>tS ⟨m,p⟩;rw[EN p3 Dv AQ];refine tI AQ λ x _ hx=>?_;have:=k.fr x hx;exact tI AQ λ y _ _=>tB (Afk y x) λ z hz=>tS ⟨⟨⟨by dsimp only;rw[List.length_set];exact m,ES p hz⟩,AR,AR⟩,AR⟩
 rintro ⟨V,_⟩ ⟨m,p⟩;refine tB (P:=λ r=>r.1.length=U) (tL (λ s=>s.1.length=U/\0<=s.2/\s.2<=(o.DD.length:Int)) (λ s=>((o.DD.length:Int) - s.2).toNat) ⟨e.b,AR,AR⟩ ?_) ?_
 . rintro ⟨j,i⟩ ⟨q,r3,r4⟩;dsimp only at q;refine tD (λ Dv=>?_) λ _=>tS q;rw[EN r3 Dv AQ];refine tI AQ λ x _ _=>tB (Akn u j x 5 0 AQ) ?_;rintro ⟨H,N⟩ l;exact tS AR
 rintro ⟨R,_⟩ q;exact tS ⟨⟨q,e.a,m,e.ul,p,e.u6⟩,K⟩
structure MW(C B S U T:Nat)(n:Nt)(c:Lo)(bo:Ax)(ag:Az)(dn up:Aj):Prop where
 c:CW C B S U T n c
 q:FQ U bo ag dn up
def GI.ctl(f:GI):Lo:=⟨f.CQ,f.CR,f.closed,f.Dp,f.C0,f.CO,f.CS,f.C7⟩
theorem Aqp{U V}(c)(q:c.CO.length=V)(o:V<=8)(i:U<=V){f}{e}{g up}(h:FQ U f e g up):DT (C9 (TC c) (f,e,g,up)) (λ r=>FQ V r.1 r.2.1 r.2.2.1 r.2.2.2):=by
 refine tL (λ s=>∃W:Nat,W<=V/\FQ W s.1 s.2.1 s.2.2.1 s.2.2.2) (λ s=>V - s.1.length) ⟨U,i,h⟩ ?_;rintro ⟨f,e,g,up⟩ ⟨W,p,k⟩;dsimp only at k;have l:=k.b;have h2:=k.a;have m:=k.dl;have n:=k.ul
 refine tD (λ Dv=>tG AQ λ _=>?_) λ j=>tS ?_
 . unfold Im;refine tG AQ λ _=>tG AQ λ _=>tG AQ λ _=>tS ⟨⟨W+1,AQ,?_,?_,?_,?_,Es k.d6 AT,Es k.u6 AT⟩,?_⟩;all_goals (dsimp only;rw[List.length_append];simp only[List.length_cons,List.length_nil];omega)
 . have:W=V:=AQ;subst this;exact k
def Bud(C B S U:Nat)(n:Nt)(c:Lo)(b:Ax)(a:Az)(e up:Aj):Prop:=∃V T:Nat,U<=V/\MW C B S V T n c b a e up
theorem Alf{C B S U T}{f}(i:NW C B S f.net)(h:MW C B S U T f.net f.ctl f.CX f.CY f.down f.up)(x)(I:f.Hi.length<=100000):DT (L5 f x) (λ r=>Bud C B S U f.net ⟨r.2.1,r.2.2.1,r.2.2.2.1,r.2.2.2.2.1,r.2.2.2.2.2.1,r.2.2.2.2.2.2.1,r.2.2.2.2.2.2.2.1,r.2.2.2.2.2.2.2.2.1⟩ r.2.2.2.2.2.2.2.2.2.1 r.2.2.2.2.2.2.2.2.2.2.1 r.2.2.2.2.2.2.2.2.2.2.2.1 r.2.2.2.2.2.2.2.2.2.2.2.2.1/\r.2.2.2.2.2.2.2.2.2.2.2.2.2.length<=f.Hi.length+35000):=by
 unfold L5;refine tT (show Mj x=some _ from rfl) ?_;refine tB (Abv i h.c _) ?_;rintro ⟨c,a,o,H⟩ ⟨K,V,W,j,e,s⟩;have b:c.CO.length=V:=e.k.ul;have g:=e.k.k.u8;refine tB (Aqp c b g j h.q) ?_;rintro ⟨z,y,E,up⟩ p;refine tB (L6 (U:=V) i _ (by rfl) (by exact p) g o s AS) ?_;rintro ⟨m,l,n,w,t⟩ ⟨u,v⟩;exact tS ⟨⟨V,W,j,e,u⟩,v⟩
theorem FQ.Awu{U}{f}{e}{g up}(h:FQ U f e g up)(i)(b)(a):FQ U (f.set i b) (e.set i a) g up:=⟨by rw[Bv];exact h.b,by rw[Bv];exact h.a,h.dl,h.ul,h.d6,h.u6⟩
theorem FQ.Byp{U}{f}{e}{g up}(h:FQ U f e g up)(i)(a):FQ U f (e.set i a) g up:=⟨h.b,by rw[Bv];exact h.a,h.dl,h.ul,h.d6,h.u6⟩
theorem FQ.Byn{U}{f}{e}{g up}(h:FQ U f e g up)(i)(b):FQ U (f.set i b) e g up:=⟨by rw[Bv];exact h.b,h.a,h.dl,h.ul,h.d6,h.u6⟩
theorem FQ.Asa{U}{f}{e}{g up}(h:FQ U f e g up)(i)(l)(j:l.length<=6):FQ U f e (g.set i l) up:=⟨h.b,h.a,by rw[Bv];exact h.dl,h.ul,ES h.d6 j,h.u6⟩
theorem FQ.N8{U}{f}{e}{g up}(h:FQ U f e g up)(i)(l)(j:l.length<=6):FQ U f e g (up.set i l):=⟨h.b,h.a,h.dl,by rw[Bv];exact h.ul,h.d6,ES h.u6 j⟩
def Ar9(C B S U T:Nat)(f:GI)(r:Aa×Ab×Ad×Aa×Aa×Ag×Ao×Bool×Ax×Az×Aj×Aj×Ak):Prop:=
 MW C B S U T f.net ⟨r.1,r.2.1,r.2.2.1,r.2.2.2.1,r.2.2.2.2.1,r.2.2.2.2.2.1,r.2.2.2.2.2.2.1,r.2.2.2.2.2.2.2.1⟩ r.2.2.2.2.2.2.2.2.1 r.2.2.2.2.2.2.2.2.2.1 r.2.2.2.2.2.2.2.2.2.2.1 r.2.2.2.2.2.2.2.2.2.2.2.1/\r.2.2.2.2.2.2.2.2.2.2.2.2.length<=f.Hi.length+40000
theorem Atd{C B S U T}{f}(v:NW C B S f.net)(h:MW C B S U T f.net f.ctl f.CX f.CY f.down f.up)(e)(ha:0<=e.a/\e.a<(U:Int))(hl:f.Hi.length<=100000):DT (Qy f e) (Ar9 C B S U T f):=by
 have hb:=h.q.b;have a1:=h.q.a;have a3:=h.q.dl;have OY:=h.q.ul
 have Y:=h.c.k.k.u8;unfold Qy;have stay:∀(r:Ax) (g:Az) (w up:Aj) (j:Ak),FQ U r g w up->j.length<=f.Hi.length+40000->Ar9 C B S U T f (f.CQ,f.CR,f.closed,f.Dp,f.C0,f.CO,f.CS,f.C7,r,g,w,up,j):=λ r g w up j W s=>⟨⟨h.c,W⟩,s⟩;have p:DT (some (f.CQ,f.CR,f.closed,f.Dp,f.C0,f.CO,f.CS,f.C7,f.CX,f.CY,f.down,f.up,f.Hi)) (Ar9 C B S U T f):=tS (stay _ _ _ _ _ h.q AQ);have Bt3:∀(x:U7) (l:Aw),l.length<=6->DT (Option.bind (LM (⟨f.blocks,f.next,f.CV,f.C8,f.cq,f.ca,f.cd,f.cp⟩:Nt) (⟨f.CQ,f.CR,f.closed,f.Dp,f.C0,f.CO,f.CS,f.C7⟩:Lo) x) λ y=>Option.bind (GX {f with CQ:=y.1.CQ,CR:=y.1.CR,closed:=y.1.closed,Dp:=y.1.Dp,C0:=y.1.C0,CO:=y.1.CO,CS:=y.1.CS,C7:=y.1.C7,up:=f.up.set (Int.toNat e.a) l} y.2.1) λ z=>some (y.1.CQ,y.1.CR,y.1.closed,y.1.Dp,y.1.C0,y.1.CO,y.1.CS,y.1.C7,z.1,z.2.1,z.2.2.1,z.2.2.2.1,z.2.2.2.2)) (Ar9 C B S U T f):=by
   intro x l a0;refine tB (Amu v h.c x) ?_;rintro ⟨c,o,er⟩ ⟨k1,k2,k3⟩;refine tB (L6 (U:=U) v _ (by rfl) (by exact h.q.N8 _ l a0) Y o k3 AS) ?_;rintro ⟨K,I,m,n,R⟩ ⟨E,V⟩;dsimp only at V;exact tS ⟨⟨k2,E⟩,AS⟩
 have t:∀(r:Ax) (g:Az) (w:Aj) (j:Ak) (l:Aw),FQ U r g w f.up->j.length<=f.Hi.length+40000->l.length<=1->DT (Option.bind (Qx {f with CX:=r,CY:=g,down:=w,Hi:=j} e.a l) λ u=>some (f.CQ,f.CR,f.closed,f.Dp,f.C0,f.CO,f.CS,f.C7,r,g,w,u,j)) (Ar9 C B S U T f):=by
   intro r g w j l W s h1;exact tB (Avk _ (by exact W) e.a l ha AQ) λ u hu=>tS (stay _ _ _ _ _ hu s)
 have Bpv:∀(r:Ax) (g:Az) (a b c:Int) (l:Aw),FQ U r g f.down f.up->l.length<=1->DT (Option.bind (PS {f with CX:=r,CY:=g} a b c) λ j=>Option.bind (Qx {f with CX:=r,CY:=g,Hi:=j} e.a l) λ u=>some (f.CQ,f.CR,f.closed,f.Dp,f.C0,f.CO,f.CS,f.C7,r,g,f.down,u,j)) (Ar9 C B S U T f):=by
   intro r g a b c l W h1;exact tB (Ae7 _ a b c AS) λ j s=>t r g f.down j l W (by dsimp only at s;omega) h1
 refine tI AQ λ H MR _=>?_;have m:∀{α:Type} (k:Aw->Option α) (Q:α->Prop),(∀l,DT (k l) Q)->DT (Option.bind (CU f.down e.a) k) Q:=λ k Q hk=>tI AQ λ l _ _=>hk l;have n:∀{α:Type} (k:Aw->Option α) (Q:α->Prop),(∀l,DT (k l) Q)->DT (Option.bind (CU f.up e.a) k) Q:=λ k Q hk=>tI AQ λ l _ _=>hk l;have Z:∀g:WR,DT (Jg (⟨f.blocks,f.next,f.CV,f.C8,f.cq,f.ca,f.cd,f.cp⟩:Nt) g e.a H) (λ x=>x.2.2.length<=1):=λ g=>Bc3 v g e.a H;have Bmf:DT (Option.bind (CU f.CY e.a) λ g=>Option.bind (Jg (⟨f.blocks,f.next,f.CV,f.C8,f.cq,f.ca,f.cd,f.cp⟩:Nt) g e.a H) λ y=>Option.bind (CU (f.CX.set (Int.toNat e.a) y.2.1) e.a) λ z=>cond (decide (H.Ff=(-1))) (cond (decide (z.Ff=(-1))) (Option.bind (Qx {f with CX:=f.CX.set (Int.toNat e.a) y.2.1,CY:=f.CY.set (Int.toNat e.a) y.1} e.a y.2.2) λ u=>some (f.CQ,f.CR,f.closed,f.Dp,f.C0,f.CO,f.CS,f.C7,(f.CX.set (Int.toNat e.a) y.2.1),(f.CY.set (Int.toNat e.a) y.1),f.down,u,f.Hi)) (Option.bind (PS {f with CX:=f.CX.set (Int.toNat e.a) y.2.1,CY:=f.CY.set (Int.toNat e.a) y.1} 14 e.a z.Ff) λ j=>Option.bind (Qx {f with CX:=f.CX.set (Int.toNat e.a) y.2.1,CY:=f.CY.set (Int.toNat e.a) y.1,Hi:=j} e.a y.2.2) λ u=>some (f.CQ,f.CR,f.closed,f.Dp,f.C0,f.CO,f.CS,f.C7,(f.CX.set (Int.toNat e.a) y.2.1),(f.CY.set (Int.toNat e.a) y.1),f.down,u,j))) (cond (decide (z.Ff=(-1))) (Option.bind (PS {f with CX:=f.CX.set (Int.toNat e.a) y.2.1,CY:=f.CY.set (Int.toNat e.a) y.1} 15 e.a z.cell) λ j=>Option.bind (Qx {f with CX:=f.CX.set (Int.toNat e.a) y.2.1,CY:=f.CY.set (Int.toNat e.a) y.1,Hi:=j} e.a y.2.2) λ u=>some (f.CQ,f.CR,f.closed,f.Dp,f.C0,f.CO,f.CS,f.C7,(f.CX.set (Int.toNat e.a) y.2.1),(f.CY.set (Int.toNat e.a) y.1),f.down,u,j)) (Option.bind (Qx {f with CX:=f.CX.set (Int.toNat e.a) y.2.1,CY:=f.CY.set (Int.toNat e.a) y.1} e.a y.2.2) λ u=>some (f.CQ,f.CR,f.closed,f.Dp,f.C0,f.CO,f.CS,f.C7,(f.CX.set (Int.toNat e.a) y.2.1),(f.CY.set (Int.toNat e.a) y.1),f.down,u,f.Hi)))) (Ar9 C B S U T f):=by
   refine tI AQ λ g _ _=>tB (Z g) λ y N=>tI (by rw[Bv];omega) λ z _ _=>tD (λ _=>tD (λ _=>t _ _ f.down f.Hi _ (h.q.Awu _ _ _) AQ N) λ _=>Bpv _ _ _ _ _ _ (h.q.Awu _ _ _) N) λ _=>tD (λ _=>Bpv _ _ _ _ _ _ (h.q.Awu _ _ _) N) λ _=>t _ _ f.down f.Hi _ (h.q.Awu _ _ _) AQ N
 have Btj:DT (Option.bind (CU f.CY e.a) λ g=>Option.bind (N5 g e.a H) λ y=>cond (decide (0<((y.2.2.length:Nat):Int))) (Option.bind (PS {f with CX:=f.CX.set (Int.toNat e.a) y.2.1,CY:=f.CY.set (Int.toNat e.a) y.1} 16 e.a H.cell) λ j=>Option.bind (Qx {f with CX:=f.CX.set (Int.toNat e.a) y.2.1,CY:=f.CY.set (Int.toNat e.a) y.1,Hi:=j} e.a y.2.2) λ u=>some (f.CQ,f.CR,f.closed,f.Dp,f.C0,f.CO,f.CS,f.C7,(f.CX.set (Int.toNat e.a) y.2.1),(f.CY.set (Int.toNat e.a) y.1),f.down,u,j)) (Option.bind (Qx {f with CX:=f.CX.set (Int.toNat e.a) y.2.1,CY:=f.CY.set (Int.toNat e.a) y.1} e.a y.2.2) λ u=>some (f.CQ,f.CR,f.closed,f.Dp,f.C0,f.CO,f.CS,f.C7,(f.CX.set (Int.toNat e.a) y.2.1),(f.CY.set (Int.toNat e.a) y.1),f.down,u,f.Hi))) (Ar9 C B S U T f):=by
   refine tI AQ λ g _ _=>tB (Blg g e.a H) λ y N=>tD (λ _=>Bpv _ _ _ _ _ _ (h.q.Awu _ _ _) N) λ _=>t _ _ f.down f.Hi _ (h.q.Awu _ _ _) AQ N
 refine tD (λ hc=>?_) λ hc=>?_
 . refine tD (λ _=>m _ _ λ l=>tB (Yz l e.b) ?_) λ _=>tD (λ _=>n _ _ λ l=>tB (Yz l e.b) ?_) λ _=>tD (λ _=>m _ _ λ l=>tB (Yw l e.b) ?_) λ _=>tD (λ _=>n _ _ λ l=>tB (Yw l e.b) ?_) λ _=>tD (λ _=>m _ _ λ l=>tB (Abm l e.b) ?_) λ _=>tD (λ _=>n _ _ λ l=>tB (Abm l e.b) ?_) λ _=>?_
   . rintro ⟨x,y,z⟩ i;exact tC (λ QY=>tS (stay _ _ _ _ _ (h.q.Asa _ _ (i QY)) AQ)) λ _=>p
   . rintro ⟨x,y,z⟩ i;exact tC (λ QY=>tD (λ _=>Bt3 x y (i QY)) λ _=>tS (stay _ _ _ _ _ (h.q.N8 _ _ (i QY)) AQ)) λ _=>p
   . rintro ⟨x,z⟩ i;exact tC (λ QY=>tS (stay _ _ _ _ _ (h.q.Asa _ _ (i QY)) AQ)) λ _=>p
   . rintro ⟨x,z⟩ i;exact tC (λ QY=>tS (stay _ _ _ _ _ (h.q.N8 _ _ (i QY)) AQ)) λ _=>p
   . rintro ⟨x,z⟩ i;exact tC (λ QY=>tS (stay _ _ _ _ _ (h.q.Asa _ _ (i QY)) AQ)) λ _=>p
   . rintro ⟨x,z⟩ i;exact tC (λ QY=>tS (stay _ _ _ _ _ (h.q.N8 _ _ (i QY)) AQ)) λ _=>p
   . refine tD (λ _=>tB (W8 v h.c e.a) ?_) λ _=>tD (λ _=>?_) λ _=>tD (λ _=>?_) λ _=>tD (λ _=>p) λ _=>p
     . rintro ⟨o,er⟩ ho;refine tB (L6 (U:=U) v _ (by rfl) (by exact h.q) Y o ho AQ) ?_;rintro ⟨K,I,m,n,R⟩ ⟨E,V⟩;dsimp only at V;exact tS (stay _ _ _ _ _ E AQ)
     . exact Bmf
     . exact Btj
 . refine tD (λ _=>m _ _ λ l=>tB (Yz l e.b) ?_) λ _=>tD (λ _=>n _ _ λ l=>tB (Yz l e.b) ?_) λ _=>tD (λ _=>m _ _ λ l=>tB (Yw l e.b) ?_) λ _=>tD (λ _=>n _ _ λ l=>tB (Yw l e.b) ?_) λ _=>tD (λ _=>m _ _ λ l=>tB (Abm l e.b) ?_) λ _=>tD (λ _=>n _ _ λ l=>tB (Abm l e.b) ?_) λ _=>?_
   . rintro ⟨x,y,z⟩ i;refine tC (λ QY=>tC (λ _=>tS (stay _ _ _ _ _ (h.q.Asa _ _ (i QY)) AQ)) λ _=>tI AQ λ g _ _=>tB (Aut g e.a x) ?_) λ _=>p;rintro ⟨a2,l2⟩ h2;exact t f.CX (f.CY.set (Int.toNat e.a) a2) (f.down.set (Int.toNat e.a) y) f.Hi l2 ((h.q.Byp _ _).Asa _ _ (i QY)) AQ h2
   . rintro ⟨x,y,z⟩ i;exact tC (λ QY=>tD (λ _=>Bt3 x y (i QY)) λ _=>tS (stay _ _ _ _ _ (h.q.N8 _ _ (i QY)) AQ)) λ _=>p
   . rintro ⟨x,z⟩ i;exact tC (λ QY=>tS (stay _ _ _ _ _ (h.q.Asa _ _ (i QY)) AQ)) λ _=>p
   . rintro ⟨x,z⟩ i;exact tC (λ QY=>tS (stay _ _ _ _ _ (h.q.N8 _ _ (i QY)) AQ)) λ _=>p
   . rintro ⟨x,z⟩ i;exact tC (λ QY=>tS (stay _ _ _ _ _ (h.q.Asa _ _ (i QY)) AQ)) λ _=>p
   . rintro ⟨x,z⟩ i;exact tC (λ QY=>tS (stay _ _ _ _ _ (h.q.N8 _ _ (i QY)) AQ)) λ _=>p
   . refine tD (λ _=>tB (W8 v h.c e.a) ?_) λ _=>tD (λ _=>Bmf) λ _=>tD (λ _=>Btj) λ _=>tD (λ _=>tC (λ _=>p) λ _=>tB (Ajz v h.c e.a ha) ?_) λ _=>p
     . rintro ⟨o,er⟩ ho;refine tB (L6 (U:=U) v _ (by rfl) (by exact h.q) Y o ho AQ) ?_;rintro ⟨K,I,m,n,R⟩ ⟨E,V⟩;dsimp only at*;have hg:=E.a;refine tI AQ λ g _ _=>tB (Bc8 g e.a H) λ l a4=>tB (Avk _ (by exact E) e.a l ha AQ) λ u hu=>tS (stay _ _ _ _ _ hu AQ)
     . rintro ⟨c,o,er⟩ ⟨k1,k2,k3⟩;refine tB (L6 (U:=U) v _ (by rfl) (by exact h.q.Byn _ _) Y o k3 AS) ?_;rintro ⟨K,I,m,n,R⟩ ⟨E,V⟩;dsimp only at V;exact tS ⟨⟨k2,E⟩,AS⟩
def O5.ctl(s:O5):Lo:=⟨s.CQ,s.CR,s.closed,s.Dp,s.C0,s.CO,s.CS,s.C7⟩
def MS(C B S U T:Nat)(n:Nt)(s:O5):Prop:=MW C B S U T n s.ctl s.CX s.CY s.down s.up
theorem Aht{α:Type}(l:List α):l.map (λ x=>x)=l:=AT
theorem Amt{C B S U T}{n}{s}(h:MS C B S U T n s):DT (NJ s) (λ r=>r=s):=by
 have p:U<=8:=h.c.k.k.u8;have j:=h.q.b;have l:=h.q.a;have m:=h.q.dl;have o:=h.q.ul
 unfold NJ;refine tB (MB h.c) ?_;intro x hx;rw[hx];refine tG AQ λ _=>tG AQ λ _=>?_;refine tB (An7 (Q:=λ r=>r=(s.down,(s.down.length:Int))) s.down (λ x=>x) ?_ ?_) ?_
 . intro acc i x hx g;have e:=Fq hx;have h2:=h.q.d6 x (Bt hx);rw[Q1.eq_1];rw[show decide ((i:Int)<((s.down.length:Nat):Int))=true from Bi AQ,Bm,EO hx,Bd,show decide (x.length<10000000)=true from Bi AQ,Bm,show decide (acc.length+1<10000000)=true from Bi AQ,Bm];simp (disch:=omega) only[C2]
 . rw[Q1.eq_1];refine tD (λ f=>AQ) λ _=>tS (by rw[Aht])
 rintro _ rfl;refine tB (An7 (Q:=λ r=>r=(s.up,(s.up.length:Int))) s.up (λ x=>x) ?_ ?_) ?_
 . intro acc i x hx g;have e:=Fq hx;have h2:=h.q.u6 x (Bt hx);rw[Q2.eq_1];rw[show decide ((i:Int)<((s.up.length:Nat):Int))=true from Bi AQ,Bm,EO hx,Bd,show decide (x.length<10000000)=true from Bi AQ,Bm,show decide (acc.length+1<10000000)=true from Bi AQ,Bm];simp (disch:=omega) only[C2]
 . rw[Q2.eq_1];refine tD (λ f=>AQ) λ _=>tS (by rw[Aht])
 rintro _ rfl;exact tS rfl
def Bul(C B S U:Nat)(n:Nt)(r:O5×OU×Ak):Prop:=(∃V T:Nat,U<=V/\MS C B S V T n r.1)/\r.2.2.length<=80000
theorem Rf{C B S U T}{n}(a:NW C B S n)(c)(bo)(ag)(dn up)(lg)(h:MW C B S U T n c bo ag dn up)(w:lg.length<=45000)(e:OU):
   DT (Option.bind (HK n c) λ (RU,x68,U9)=>Option.bind (GX {n with CQ:=RU.CQ,CR:=RU.CR,closed:=RU.closed,Dp:=RU.Dp,C0:=RU.C0,CO:=RU.CO,CS:=RU.CS,C7:=RU.C7,CX:=bo,CY:=ag,down:=dn,up:=up,Hi:=lg} x68) λ (x71,x72,Kd,x74,x75)=>some ((⟨RU.CQ,RU.CR,RU.closed,RU.Dp,RU.C0,RU.CO,RU.CS,RU.C7,x71,x72,Kd,x74⟩:O5),e,x75)) (λ r=>MS C B S U T n r.1/\r.2.2.length<=80000):=by
 have i:U<=8:=h.c.k.k.u8;refine tB (Afz a h.c) ?_;rintro ⟨u,o,v⟩ ⟨x,j,l⟩;refine tB (L6 (U:=U) a _ (by rfl) (by exact h.q) i o l AS) ?_;rintro ⟨f,b,g,t,m⟩ ⟨p,s⟩;dsimp only at s;exact tS ⟨⟨j,p⟩,AS⟩
theorem Awj{C B S U T}{n}(g:NW C B S n){s}(h:MS C B S U T n s)(e):DT (IY n s e) (Bul C B S U n):=by
 have z:=h.q.b;unfold IY;refine tB (Amt h) ?_;intro x hx;rw[hx];have stay:∀j:OU,DT _ (Bul C B S U n):=λ j=>tW (Rf g s.ctl s.CX s.CY s.down s.up [] h AT j) λ r a=>⟨⟨U,T,Bk _,a.1⟩,a.2⟩;refine tD (λ _=>?_) λ _=>tD (λ E=>tD (λ H=>?_) λ _=>stay ⟨0,0⟩) λ _=>stay ⟨0,0⟩
 . refine tB (Alf (T:=T) (f:=⟨n.blocks,n.next,n.CV,n.C8,n.cq,n.ca,n.cd,n.cp,s.CQ,s.CR,s.closed,s.Dp,s.C0,s.CO,s.CS,s.C7,s.CX,s.CY,s.down,s.up,[]⟩) g h e.text AT) ?_;rintro ⟨j,o,q,cl,Dp,pe,y,w,u,l,k,m,up,t⟩ ⟨⟨V,W,v,p⟩,i⟩;dsimp only at i;rw[Bz] at i;exact tW (Rf g _ l k m up t p AQ j) λ r a=>⟨⟨V,W,v,a.1⟩,a.2⟩
 . refine tB (Atd (T:=T) (f:=⟨n.blocks,n.next,n.CV,n.C8,n.cq,n.ca,n.cd,n.cp,s.CQ,s.CR,s.closed,s.Dp,s.C0,s.CO,s.CS,s.C7,s.CX,s.CY,s.down,s.up,[]⟩) g h e AQ AT) ?_;rintro ⟨o,q,cl,Dp,pe,y,w,u,l,k,m,up,t⟩ ⟨p,i⟩;dsimp only at i;rw[Bz] at i;exact tW (Rf g _ l k m up t p AQ ⟨0,0⟩) λ r a=>⟨⟨U,T,Bk _,a.1⟩,a.2⟩
theorem Aov{step:Aa×Int->Option ((Aa×Int)⊕(Aa×Int))}(n)(o:n<=1000)
   (l:∀(v:Aa) (i:Int),v.length=n->0<=i->i<(n:Int)->step (v,i)=some (.inl (v.set i.toNat (-1),i+1))) (k:∀v:Aa,v.length=n->step (v,(n:Int))=some (.inr (v,(n:Int)))):
   DT (C9 step (List.replicate n 0,0)) (λ r=>r.1.length=n/\∀x∈r.1,x=-1):=by
 refine tL (λ s=>s.1.length=n/\0<=s.2/\s.2<=(n:Int)/\∀j:Nat,(j:Int)<s.2->s.1[j]?=some (-1)) (λ s=>n - s.2.toNat) ⟨AT,AT,AT,λ j a=>by dsimp only at a;omega⟩ ?_;rintro ⟨v,i⟩ ⟨b,h2,m,f⟩;dsimp only at b;by_cases h:i<(n:Int)
 . rw[l v i b h2 h];refine tS ⟨⟨by rw[Bv];exact b,AS,AS,λ j a=>?_⟩,AS⟩;rw[BH];split
   . rename_i g;rw[if_pos AQ]
   . exact f j AQ
 . obtain rfl:i=(n:Int):=AQ;rw[k v b];refine tS ⟨b,λ x hx=>?_⟩;obtain ⟨j,a⟩:=List.getElem?_of_mem hx;have g:j<v.length:=by
     rcases Nat.lt_or_ge j v.length with e | e
     . exact e
     . rw[List.getElem?_eq_none e] at a;cases a
   rw[f j AQ] at a;exact (Bf a).symm
theorem Arv(C:Nat)(h:C<=48):DT (SZ (C:Int)) (λ r=>r.2=0/\r.1.CQ.length=C/\(∀x∈r.1.CQ,x=-1)/\r.1.CR=List.replicate C []):=by
 unfold SZ;refine tD (λ _=>AQ) λ _=>tD (λ _=>AQ) λ _=>?_;rw[Be,show (decide ((0:Int)<=(C:Int))&&decide (C<10000000))=true from AW,Bm];refine tB (Aov C AQ ?_ ?_) ?_
 . intro v i a h2 b;rw[Uh.eq_1,show decide (i<(C:Int))=true from Bi b,Bm];have e:i.toNat<v.length:=AQ;unfold CU;rw[if_pos h2,Bp e,Bd];simp (disch:=omega) only[C2]
 . intro v a;rw[Uh.eq_1,show decide ((C:Int)<(C:Int))=false from AT,Bl]
 rintro ⟨v,i⟩ ⟨a,h2⟩;exact tS ⟨rfl,a,h2,rfl⟩
theorem Aru{C B S}{n}(a:NW C B S n):DT (MA n) (λ r=>r.2=0/\SG C B r.1):=by
 have NN:=a.O4;have e:=a.bc;have hb:=a.g.g24
 unfold MA;rw[a.vd,Bd,Bm,a.cs,Bd,Bd,Be,show (decide ((0:Int)<=(C:Int))&&decide (C<10000000))=true from AW,Bm];refine tB (Aov C AQ ?_ ?_) ?_
 . intro v i b h2 j;rw[Nu.eq_1,show decide (i<((v.length:Nat):Int))=true from Bi AQ,Bm];have f:i.toNat<v.length:=AQ;unfold CU;rw[if_pos h2,Bp f,Bd];simp (disch:=omega) only[C2]
 . intro v b;rw[Nu.eq_1,show decide ((C:Int)<((v.length:Nat):Int))=false from AW,Bl]
 rintro ⟨v,i⟩ ⟨b,h2⟩;exact tS ⟨rfl,AT,b,AT,AT,AT,e,hb,NN⟩
theorem Ars{C B S}{n}(k:NW C B S n):DT (SR n) (λ r=>r.2=0/\CW C B S n.C8.length 0 n r.1):=by
 have NN:=k.O4;have U:=k.rl
 unfold SR;refine tB (Aru k) ?_;rintro ⟨s,e⟩ ⟨rfl,hs⟩;refine tD (λ _=>?_) λ h=>absurd rfl h;rw[k.cs,Bd];refine tB (Arv C NN) ?_;rintro ⟨⟨ow,qu⟩,e⟩ ⟨rfl,h1,h2,rfl⟩;refine tD (λ _=>?_) λ h=>absurd rfl h;refine tB (P:=λ r=>r.1.length=C/\r.2.1.length=n.C8.length/\(∀o∈r.1,-1<=o/\o<(n.C8.length:Int))/\(∀(j:Nat) u,r.2.1[j]?=some u->u.state=1/\u.Ff=-1/\u.DY=-1/\u.Dx=0/\VM C S 0 u/\r.1[u.cell.toNat]?=some (j:Int))) (tL (λ s=>s.1.length=C/\(s.2.1.length:Int)=s.2.2/\s.2.2<=(n.C8.length:Int)/\(∀o∈s.1,-1<=o/\o<s.2.2)/\(∀(j:Nat) u,s.2.1[j]?=some u->u.state=1/\u.Ff=-1/\u.DY=-1/\u.Dx=0/\VM C S 0 u/\s.1[u.cell.toNat]?=some (j:Int)/\n.C8[j]?=some u.cell)) (λ s=>n.C8.length - s.2.1.length) ⟨h1,AT,AT,λ o m=>by rw[h2 o m];simp,λ j u g=>by simp at g⟩ ?_) ?_
 . rintro ⟨v,H,i⟩ ⟨I,Z,k3,l,k5⟩;dsimp only at*;refine tD (λ Dv=>?_) λ a1=>tS ?_
   . refine tI AQ λ x hx W=>?_;have p:=k.rr x W;refine tI AQ λ _ _ _=>tB (Abk k x AQ) λ d T=>tB (XY k x AQ) λ f hf=>tG AQ λ _=>tS ⟨⟨?_,?_,?_,?_,?_⟩,?_⟩
     . rw[Bv];exact I
     . simp (disch:=omega) only[C2];rw[Bw,CM];omega
     . simp (disch:=omega) only[C2];omega
     . simp (disch:=omega) only[C2];exact ES (λ o m=>by have:=l o m;omega) AQ
     . dsimp only;intro j u g;rcases Nat.lt_or_ge j H.length with y | y
       . rw[Cv y] at g;obtain ⟨K,z,N,Q,R,E,w⟩:=k5 j u g;refine ⟨K,z,N,Q,R,?_,w⟩;rw[BH,if_neg ?_]
         . exact E
         . intro hc;have a0:=k.rr _ (Bt w);have Y:x=u.cell:=AQ;rw[<-Y] at w;have h7:j<n.C8.length:=AQ;have h8:i.toNat<n.C8.length:=AQ;rw[Bp h7] at w;rw[Bp h8] at hx;have h9:=(List.getElem_inj k.rn).1 ((Bf w).trans (Bf hx).symm);omega
       . rw[CI y] at g;obtain ⟨a2,MT⟩:j=H.length/\_=u:=by
           cases T:j - H.length with
           | zero=>rw[T] at g;exact ⟨AQ,Bf g⟩
           | succ q=>rw[T] at g;simp at g
         subst MT;refine ⟨rfl,rfl,rfl,rfl,⟨AS,AS,AS,AS,hf.2,by have:=hf.1;dsimp only;omega,λ _=>AS⟩,?_,?_⟩
         . dsimp only;rw[BH,if_pos rfl,if_pos AQ];rw[show i=(j:Int) by omega]
         . dsimp only;rw[show j=i.toNat by omega];exact hx
     . dsimp only;rw[List.length_append,List.length_singleton];omega
   . have:i=(n.C8.length:Int):=AQ;subst this;exact ⟨I,AS,l,λ j u g=>by
       obtain ⟨K,z,N,Q,R,E,w⟩:=k5 j u g;exact ⟨K,z,N,Q,R,E⟩⟩
 rintro ⟨v,H,i⟩ ⟨I,Z,k3,l⟩;dsimp only at Z;unfold Is IX;refine tB (P:=λ _=>True) (tB (Ks H AQ) ?_) ?_
 . rintro ⟨a,b,c⟩ _;refine tB (P:=λ r=>r.length=C) (tB (G5 _ hs) λ r p=>tS p) λ cc Y=>tB (M5 k cc b Y) λ _ _=>tC (λ _=>tS trivial) λ _=>tS trivial
 . intro ok _;refine tS ⟨rfl,?_,?_,?_⟩
   . refine ⟨k,⟨I,by simp[toD],NN,U,k3,?_,?_,?_⟩,hs,Z,?_,rfl,AQ,?_⟩
     . intro row p x hx;rw[(List.mem_replicate.1 p).2] at hx;cases hx
     . show (List.replicate C ([]:Aa)).flatten.Nodup
       simp
     . intro i o row _ p m;have:=(List.mem_replicate.1 (Bt p)).2;rw[this] at m;cases m
     . intro u g;obtain ⟨j,y⟩:=List.getElem?_of_mem g;exact (l j u y).2.2.2.2.1
     . intro t V;cases V
   . intro i u g _;obtain ⟨K,z,N,Q,R,E⟩:=l i u g;exact ⟨E,λ h=>absurd z h⟩
   . refine ⟨λ j t V=>?_,λ i u g h0=>?_,λ i u g _ h0=>?_,λ i u g h0=>?_⟩
     . simp[toD] at V
     . have:=(l i u g).2.2.1;omega
     . have:=(l i u g).2.2.2.1;omega
     . have:=(l i u g).1;omega
theorem Arq{C B S}{n}(f:NW C B S n):DT (SQ n) (λ r=>r.2=0/\MS C B S n.C8.length 0 n r.1):=by
 have p:=f.rl;unfold SQ;refine tB (Ars f) ?_;rintro ⟨c,e⟩ ⟨rfl,m⟩;refine tD (λ _=>?_) λ h=>absurd rfl h;refine tB (P:=λ r=>FQ n.C8.length r.1 r.2.1 r.2.2.1 r.2.2.2.1) (tL (λ s=>∃W:Nat,s.2.2.2.2=(W:Int)/\W<=n.C8.length/\FQ W s.1 s.2.1 s.2.2.1 s.2.2.2.1) (λ s=>n.C8.length - s.1.length) ⟨0,rfl,AQ,rfl,rfl,rfl,rfl,all_nil,all_nil⟩ ?_) ?_
 . rintro ⟨j,g,l,up,i⟩ ⟨W,q,w,k⟩;dsimp only at q k;have t:=k.b;have h2:=k.a;have u:=k.dl;have v:=k.ul
   refine tD (λ Dv=>?_) λ o=>tS ?_
   . refine tI AQ λ x _ _=>tG AQ λ _=>?_;unfold Im;refine tG AQ λ _=>tG AQ λ _=>tG AQ λ _=>tS ⟨⟨W+1,?_,AQ,?_,?_,?_,?_,Es k.d6 AT,Es k.u6 AT⟩,?_⟩
     . simp (disch:=omega) only[C2];omega
     all_goals (dsimp only;rw[List.length_append];simp only[List.length_cons,List.length_nil];omega)
   . have:W=n.C8.length:=AQ;subst this;exact k
 rintro ⟨j,g,l,up,i⟩ k;exact tS ⟨rfl,m,k⟩
theorem Js(l)(i m)(f:0<=i/\i<1000000000)(g:m<1000000):DT (Di l i m) (λ r=>0<=r.1/\(1<=m->r.1<m)/\r.2.1=l/\r.2.2=i+1):=by
 have cut:∀x:Int,DT (LI x m) (λ r=>0<=r/\(1<=m->r<m)):=by
   intro x;unfold LI;refine tD (λ _=>tS ⟨AQ,λ _=>AQ⟩) λ b=>tG AQ λ _=>?_;have h2:=Int.tmod_lt_of_pos x (show 0<m by omega);have e:=Int.lt_tmod_of_pos x (show 0<m by omega);refine tD (λ _=>tS ?_) λ _=>tS ⟨AQ,λ _=>AQ⟩;rw[C2 AQ AQ];exact ⟨AQ,λ _=>AQ⟩
 unfold Di;refine tD (λ _=>tI AQ λ x _ _=>tB (cut x) λ r a=>tS ⟨a.1,a.2,rfl,?_⟩) λ _=>tB (cut _) λ r a=>tS ⟨a.1,a.2,rfl,?_⟩;all_goals (dsimp only;rw[C2 AQ AQ])
def W0(w:Ac):Prop:=w≠[]/\w.length<=12/\∀c∈w,(97<=c.toNat/\c.toNat<=122)∨(48<=c.toNat/\c.toNat<=57)
def jn:Ai->Ac
 | []=>[]
 | [w]=>w
 | w::r=>w++32::jn r
def OTx(t:Ac):Prop:=∃a:Ai,1<=a.length/\a.length<=3/\(∀w∈a,W0 w)/\t=jn a
def Mh(e:G9):Prop:=(e.kind=1/\e.a=0/\e.b=0/\OTx e.text)∨(2<=e.kind/\e.kind<=11/\0<=e.a/\e.a<=8/\0<=e.b/\e.b<=6/\e.text=[]/\(8<=e.kind->e.b=0))
theorem OTx.one{w}(h:W0 w):OTx w:=⟨[w],AT,AT,by simp[h],rfl⟩
theorem OTx.two{v w}(a:W0 v)(h:W0 w):OTx (v++32::w):=⟨[v,w],AT,AT,by simp[a,h],rfl⟩
theorem OTx.three{u v w}(a:W0 u)(b:W0 v)(h:W0 w):OTx (u++32::(v++32::w)):=⟨[u,v,w],AT,AT,by simp[a,b,h],rfl⟩
structure NMS(n:Nt):Prop where
 b:∀x∈n.blocks,W0 x.name
 s:∀x∈n.CV,W0 x.name
 s3:3<=n.CV.length
theorem S8{n}(h:NMS n)(k:n.CV.length<=6)(l)(i)(m:0<=i/\i<900000000):DT (DN l i n) (λ r=>W0 r.1/\r.2.1=l/\i<=r.2.2/\r.2.2<=i+3):=by
 have j:=h.s3;unfold DN;refine tB (Js l i _ AQ AQ) ?_;rintro ⟨x,g,b⟩ ⟨e,f,rfl,rfl⟩;refine tI AQ λ s _ a=>tC (λ _=>tB (Js _ _ _ AQ AQ) ?_) λ _=>tS ⟨h.s s a,rfl,AS,AS⟩;rintro ⟨x,g,b⟩ ⟨e,f,rfl,rfl⟩;refine tD (λ _=>tB (Js _ _ _ AQ AQ) ?_) λ _=>tS ⟨h.s s a,rfl,AS,AS⟩;rintro ⟨x,g,b⟩ ⟨e,f,rfl,rfl⟩;dsimp only;rw[C2 AQ AQ];exact tI AQ λ s _ a=>tS ⟨h.s s a,rfl,AS,AS⟩
theorem Alp(x)(h:0<=x/\x<10):DT (Wp x) (λ r=>W0 r):=by
 unfold Wp;rw[if_pos AQ,Bhg x h.1 h.2];refine tS ⟨AT,AT,λ c a=>?_⟩;rw[BG.1 a];right;rw[UInt8.toNat_ofNat'];omega
theorem A2{p:Prop}(h:p:=by simp only[Bw,CM];omega):p:=h
theorem Bbt{C B S}{n}(I:NW C B S n)(h:NMS n)(l)(i)(hi:0<=i/\i<100000000):DT (ML l i n) (λ r=>OTx r.1/\r.2.1=l/\i<=r.2.2/\r.2.2<=i+10):=by
 have hb:=I.nb;have a0:=I.b1;have a1:=I.g.g24;have h6:=I.s6;have Ut:=I.ns
 have t:n.CV.length<=6:=AQ;have h3:=h.s3;have Byu:∀(p:Ac),W0 p->∀(q:Ac),p++[32]=q->∀j e,j<=i+4->i<=j->DT (Option.bind (DN e j n) λ (Py,Arh,Bn1)=>cond (decide (q.length+Py.length<10000000)) (cond (decide ((q++Py).length+[(32:UInt8)].length<10000000)) (Option.bind (DN Arh Bn1 n) λ (Arf,Amb,Bcc)=>cond (decide (((q++Py)++[32]).length+Arf.length<10000000)) (some (((((q++Py)++[32])++Arf),Amb,Bcc):Ac×Aa×Int)) none) none) none) (λ r=>OTx r.1/\r.2.1=e/\i<=r.2.2/\r.2.2<=i+10):=by
   intro p f q z j e v y;have U:=f.2.1;have V:q.length=p.length+1:=by rw[<-z];simp
   refine tB (S8 h t e j AQ) ?_;rintro ⟨a,N,W⟩ ⟨Q,rfl,m3,m4⟩;dsimp only at*;have m5:=Q.2.1;refine tG AQ λ _=>tG A2 λ _=>tB (S8 h t N W AQ) ?_;rintro ⟨b,l4,j4⟩ ⟨Y,rfl,n3,n4⟩;dsimp only at*;have n5:=Y.2.1;refine tG A2 λ _=>tS ⟨?_,rfl,AS,AS⟩;rw[<-z];have:=OTx.three f Q Y
   simpa using this
 have two:∀(p:Ac),W0 p->∀(q:Ac),p++[32]=q->∀w,W0 w->∀j e,j<=i+10->i<=j->DT (cond (decide (q.length+w.length<10000000)) (some ((q++w,e,j):Ac×Aa×Int)) none) (λ r=>OTx r.1/\r.2.1=e/\i<=r.2.2/\r.2.2<=i+10):=by
   intro p f q z w o j e v y;have U:=f.2.1;have a3:=o.2.1
   have V:q.length=p.length+1:=by rw[<-z];simp
   refine tG AQ λ _=>tS ⟨?_,rfl,y,v⟩;rw[<-z];have:=OTx.two f o
   simpa using this
 have k:∀p:Ac,(p≠[]/\p.length<=12/\p.all (λ c=>(97<=c.toNat&&c.toNat<=122))=true)->W0 p:=by
   intro p f;refine ⟨f.1,f.2.1,λ c hc=>?_⟩;have:=BB.1 f.2.2 c hc;simp only[BA,BM] at this;exact .inl this
 have wt:=k [116,97,115,107] AV;have Bx2:=k [99,97,110,99,101,108] AV;have Br4:=k [99,108,111,115,101] AV;have Br2:=k [111,112,101,110] AV;have Bx4:=k [97,100,100] AV;have Bwy:=k [114,101,109,111,118,101] AV;have Bwx:=k [115,116,97,116,117,115] AV;have Bx3:=k [98,108,111,99,107] AV;have Bx1:=k [102,108,101,101,116] AV;have Bwz:=k [113,117,101,117,101] AV;unfold ML;refine tB (Js l i _ AQ AQ) ?_;rintro ⟨x,e,i2⟩ ⟨k1,k2,rfl,rfl⟩;refine tI AQ λ R _ u=>tB (Js _ _ _ AQ AQ) ?_;rintro ⟨x9,e,i2⟩ ⟨k4,k5,rfl,rfl⟩;have Ahj:=Byu _ wt [116,97,115,107,32] rfl (i+1+1) e AQ AQ;have next:∀m:Int,1<=m->m<1000->∀(K:Int×Aa×Int->Option (Ac×Aa×Int)),(∀x:Int,0<=x->x<m->DT (K (x,e,i+3)) (λ r=>OTx r.1/\r.2.1=e/\i<=r.2.2/\r.2.2<=i+10))->DT (Option.bind (Di e (i+1+1) m) K) (λ r=>OTx r.1/\r.2.1=e/\i<=r.2.2/\r.2.2<=i+10):=by
   intro m T a2 K Z;refine tB (Js _ _ _ AQ AQ) ?_;rintro ⟨x,N,i3⟩ ⟨E,H,q3,q4⟩;dsimp only at*;have q5:=H T;rw[q3,q4,show i+1+1+1=i+3 by omega];exact Z x E q5
 refine tD (λ _=>Ahj) λ _=>tD (λ _=>Ahj) λ _=>tD (λ _=>Ahj) λ _=>tD (λ _=>Ahj) λ _=>tD (λ _=>Ahj) λ _=>tD (λ _=>Ahj) λ _=>?_;have sta:∀(p:Ac),W0 p->∀(q:Ac),p++[32]=q->∀j,j<=i+4->i<=j->DT (Option.bind (DN e j n) λ (OV,RV,Mv)=>cond (decide (q.length+OV.length<10000000)) (some ((q++OV,RV,Mv):Ac×Aa×Int)) none) (λ r=>OTx r.1/\r.2.1=e/\i<=r.2.2/\r.2.2<=i+10):=by
   intro p f q z j v y;refine tB (S8 h t e j AQ) ?_;rintro ⟨a,N,W⟩ ⟨Q,rfl,m3,m4⟩;dsimp only at*;exact two p f q z a Q W N AQ AQ
 refine tD (λ _=>next 6 AQ AQ _ λ x E H=>tB (Alp x AQ) λ w o=>two _ Bx2 _ rfl w o (i+3) e AQ AQ) λ _=>?_;refine tD (λ _=>two _ Br4 _ rfl _ (h.b R u) _ e AQ AQ) λ _=>?_;refine tD (λ _=>next 2 AQ AQ _ λ x E H=>tD (λ _=>sta _ Br2 _ rfl (i+3) AQ AQ) λ _=>two _ Br2 _ rfl _ (h.b R u) (i+3) e AQ AQ) λ _=>?_;refine tD (λ _=>next _ AQ AQ _ λ x E H=>tI AQ λ s _ hs=>two _ Bx4 _ rfl _ (h.s s hs) (i+3) e AQ AQ) λ _=>?_;refine tD (λ _=>next 4 AQ AQ _ λ x E H=>tB (Alp x AQ) λ w o=>two _ Bwy _ rfl w o (i+3) e AQ AQ) λ _=>?_;refine tD (λ _=>next 6 AQ AQ _ λ x E H=>tB (Alp x AQ) λ w o=>two _ Bwx _ rfl w o (i+3) e AQ AQ) λ _=>?_;refine tD (λ _=>two _ Bx3 _ rfl _ (h.b R u) _ e AQ AQ) λ _=>?_;refine tD (λ _=>tS ⟨OTx.one Bx1,rfl,AS,AS⟩) λ _=>tD (λ _=>tS ⟨OTx.one Bwz,rfl,AS,AS⟩) λ _=>?_;exact sta _ Br4 _ rfl _ AQ AQ
theorem Agz(s):DT (II s) (λ r=>r<=(s.CO.length:Int)/\r<=(s.CX.length:Int)/\r<=(s.CY.length:Int)):=by
 unfold II;refine tS ?_;split<;>split<;>omega
theorem Bku(u)(b)(a)(k):DT (Mz u b a k) (λ _=>True):=by
 unfold Mz
 repeat' (first | (with_reducible refine tB (OR b) (λ _ _=>?_)) | (with_reducible refine tI (by (first | omega | (simp only[Bv,Bw,Br,Bz,B1,BJ,Cs] at*;omega))) (λ _ _ _=>?_)) | (with_reducible refine tG (by (first | omega | (simp only[Bv,Bw,Br,Bz,B1,BJ,Cs] at*;omega))) (λ _=>?_)) | (with_reducible refine tD (λ _=>?_) (λ _=>?_)) | (with_reducible refine tC (λ _=>?_) (λ _=>?_)) | (with_reducible refine tS ?_))
 all_goals trivial
theorem Blh{C B S U T}{n}{s}(h:MS C B S U T n s):DT (SP s) (λ r=>r.length<=1000):=by
 have v:U<=8:=h.c.k.k.u8;have t:=h.q.a;unfold SP;refine tB (P:=λ r=>r.1.length<=1000) (tL (λ r=>0<=r.2/\r.2<=(U:Int)/\r.1.length<=10*r.2.toNat) (λ r=>U - r.2.toNat) ⟨AT,AT,AT⟩ ?_) ?_
 . rintro ⟨l,i⟩ ⟨y,z,o⟩;dsimp only at o;refine tB (Agz s) λ w x=>tD (λ Dv=>?_) λ e=>tS AS;refine tB (P:=λ r=>r.1.length<=l.length+5) (tL (λ r=>1<=r.2/\r.2<=6/\(r.1.length:Int)<=l.length+r.2 - 1) (λ r=>6 - r.2.toNat) ⟨AT,AT,AT⟩ ?_) ?_
   . rintro ⟨m,j⟩ ⟨E,H,p⟩;dsimp only at p;refine tD (λ Dv=>tI AQ λ u _ _=>tI AQ λ b _ _=>tI AQ λ a _ _=>tB (Bku u b a j) λ d _=>tC (λ _=>tG AQ λ _=>tS ⟨⟨?_,?_,?_⟩,?_⟩) λ _=>tS ⟨⟨?_,?_,?_⟩,?_⟩) λ e=>tS AS;all_goals (dsimp only;(try rw[List.length_append,List.length_singleton]);rw[C2 AQ AQ];omega)
   . rintro ⟨m,j⟩ g;dsimp only at g;refine tS ⟨⟨?_,?_,?_⟩,?_⟩;all_goals (dsimp only;rw[C2 AQ AQ];omega)
 . rintro ⟨l,i⟩ f;exact tS f
theorem Mh.num{k a b}(h:2<=k/\k<=11/\0<=a/\a<=8/\0<=b/\b<=6/\(8<=k->b=0)):Mh ⟨k,a,b,[]⟩:= .inr ⟨h.1,h.2.1,h.2.2.1,h.2.2.2.1,h.2.2.2.2.1,h.2.2.2.2.2.1,rfl,h.2.2.2.2.2.2⟩
theorem Ajl{C B S U T}{n}{s}(h:MS C B S U T n s)(d):DT (LJ s d) (λ r=>r.2=true->Mh r.1):=by
 have H:U<=8:=h.c.k.k.u8;have z:=h.q.ul;unfold LJ;have no:∀e:G9,DT (some (e,false)) (λ r=>r.2=true->Mh r.1):=λ e=>tS (λ h=>by cases h);refine tD (λ _=>no _) λ E=>tB (Agz s) λ w N=>tD (λ _=>no _) λ l=>tD (λ _=>no _) λ I=>tD (λ _=>no _) λ K=>?_;have yes:∀k b:Int,2<=k->k<=11->0<=b->b<=6->(8<=k->b=0)->DT (some ((⟨k,d.CZ,b,[]⟩:G9),true)) (λ r=>r.2=true->Mh r.1):=λ k b p t v x y=>tS λ _=>Mh.num ⟨p,t,AQ,AQ,v,x,y⟩;refine tI AQ λ u _ _=>tI AQ λ a _ _=>tD (λ _=>?_) λ _=>tD (λ _=>yes 9 0 AQ AQ AQ AQ AQ) λ _=>tD (λ _=>yes 9 0 AQ AQ AQ AQ AQ) λ _=>tD (λ _=>yes 10 0 AQ AQ AQ AQ AQ) λ _=>tD (λ _=>?_) λ _=>no _
 . refine tB (P:=λ e=>match e with | .inl _=>True | .inr r=>r.2=true->Mh r.1) (tL (λ i=>0<=i/\i<=6) (λ i=>7 - i.toNat) ⟨AQ,AQ⟩ ?_) ?_
   . rintro i ⟨m,o⟩;refine tI AQ λ row _ g=>?_;have j:=h.q.d6 row g;refine tD (λ Dv=>tI AQ λ f _ _=>tD (λ _=>tD (λ _=>tS ?_) λ _=>tS ?_) λ _=>tS ?_) λ _=>tS trivial
     . exact λ _=>Mh.num ⟨AQ,AQ,AQ,AQ,AQ,AQ,AQ⟩
     all_goals (dsimp only;rw[C2 AQ AQ];omega)
   . rintro (e | r) g
     . exact tI AQ λ row _ g=>tD (λ _=>yes 4 0 AQ AQ AQ AQ AQ) λ _=>yes 8 0 AQ AQ AQ AQ AQ
     . exact tS g
 . refine tB (P:=λ e=>match e with | .inl _=>True | .inr r=>r.2=true->Mh r.1) (tL (λ i=>0<=i/\i<=6) (λ i=>7 - i.toNat) ⟨AQ,AQ⟩ ?_) ?_
   . rintro i ⟨m,o⟩;refine tI AQ λ row _ g=>?_;have j:=h.q.u6 row g;refine tD (λ Dv=>tI AQ λ f _ _=>tD (λ _=>tD (λ _=>tD (λ _=>tS ?_) λ _=>tS ?_) λ _=>tS ?_) λ _=>tS ?_) λ _=>tS trivial
     . exact λ _=>Mh.num ⟨AQ,AQ,AQ,AQ,AQ,AQ,AQ⟩
     all_goals (dsimp only;rw[C2 AQ AQ];omega)
   . rintro (e | r) g
     . exact tI AQ λ row _ g=>tD (λ _=>yes 5 0 AQ AQ AQ AQ AQ) λ _=>yes 8 0 AQ AQ AQ AQ AQ
     . exact tS g
theorem Bik{C B S U T}{n}{s}(h:MS C B S U T n s)(k):DT (P6 s k) (λ r=>r.2=true->Mh r.1):=by
 unfold P6;refine tB (Blh h) λ l i=>tD (λ _=>tS (λ h=>by cases h)) λ f=>tG AQ λ _=>?_;have h2:=Int.tmod_lt_of_pos k (show 0<(l.length:Int) by omega);have g:=Int.lt_tmod_of_pos k (show 0<(l.length:Int) by omega);refine tD (λ _=>?_) λ _=>?_
 . rw[C2 AQ AQ];exact tI AQ λ d _ _=>tB (Ajl h d) λ ⟨a,b⟩ e=>tS e
 . exact tI AQ λ d _ _=>tB (Ajl h d) λ ⟨a,b⟩ e=>tS e
theorem A5{p:Prop}(h:p:=by simp only[Br,Bz];omega):p:=h
theorem Au5{C B S U T}{n}{s}(h:MS C B S U T n s)(l)(i)(hi:0<=i/\i<100000000)(f):DT (Jk l i s f) (λ r=>Mh r.1/\r.2.1=l/\i<=r.2.2/\r.2.2<=i+10):=by
 have h8:U<=8:=h.c.k.k.u8;have e1:=h.q.b;unfold Jk;refine tB (Js l i _ AQ AQ) ?_;rintro ⟨x,e,i2⟩ ⟨k1,k2,rfl,rfl⟩;refine tI A5 λ k _ Q=>?_;have Sp:2<=k/\k<=11:=by
   simp only[BX,BN,or_false] at Q;omega
 rw[C2 (n:=((s.CX.length:Nat):Int)+1) AQ AQ];have v:∀(j m:Int),i<=j->j<=i+8->1<=m->m<1000->∀(K:Int×Aa×Int->Option (G9×Aa×Int)),(∀x:Int,0<=x->x<m->DT (K (x,e,j+1)) (λ r=>Mh r.1/\r.2.1=e/\i<=r.2.2/\r.2.2<=i+10))->DT (Option.bind (Di e j m) K) (λ r=>Mh r.1/\r.2.1=e/\i<=r.2.2/\r.2.2<=i+10):=by
   intro j m g t z R K N;refine tB (Js _ _ _ AQ AQ) ?_;rintro ⟨x,l3,i3⟩ ⟨o,p,E,H⟩;dsimp only at*;have I:=p z;rw[E,H];exact N x o I
 have fin:∀(k a b j:Int),2<=k->k<=11->0<=a->a<=8->0<=b->b<=6->(8<=k->b=0)->i<=j->j<=i+10->DT (some ((⟨k,a,b,[]⟩:G9),e,j)) (λ r=>Mh r.1/\r.2.1=e/\i<=r.2.2/\r.2.2<=i+10):=λ k a b j o p E H I V W Y Z=>tS ⟨Mh.num ⟨o,p,E,H,I,V,W⟩,rfl,Y,Z⟩;have u:∀j:Int,i<=j->j<=i+4->DT (Option.bind (Di e j (((s.CX.length:Nat):Int)+1)) λ (G3,Ju,Lq)=>cond (decide (k<8)) (Option.bind (Di Ju Lq 3) λ (Jt,Hy,RY)=>some ((⟨k,G3,Jt,[]⟩:G9),Hy,RY)) (some ((⟨k,G3,0,[]⟩:G9),Ju,Lq))) (λ r=>Mh r.1/\r.2.1=e/\i<=r.2.2/\r.2.2<=i+10):=by
   intro j g t;refine v j _ g AQ AQ AQ _ λ x o p=>tD (λ w=>v (j+1) 3 AQ AQ AQ AQ _ λ y p1 p2=>fin _ _ _ _ AQ AQ AQ AQ AQ AQ AQ AQ AQ) λ w=>fin _ _ _ _ AQ AQ AQ AQ AQ AQ AQ AQ AQ
 have eight:∀j:Int,i<=j->j<=i+4->DT (Option.bind (Di e j (((s.CX.length:Nat):Int)+1)) λ (G3,Ju,Lq)=>some ((⟨8,G3,0,[]⟩:G9),Ju,Lq)) (λ r=>Mh r.1/\r.2.1=e/\i<=r.2.2/\r.2.2<=i+10):=by
   intro j g t;exact v j _ g AQ AQ AQ _ λ x o p=>fin _ _ _ _ AQ AQ AQ AQ AQ AQ AQ AQ AQ
 refine tD (λ _=>tC (λ _=>v (i+1) 4 AQ AQ AQ AQ _ λ x o p=>tD (λ _=>eight (i+1+1) AQ AQ) λ _=>u (i+1+1) AQ AQ) λ _=>eight (i+1) AQ AQ) λ _=>u (i+1) AQ AQ
abbrev ScS:Type:=Au×Aa×Int×Aa×Ab×Aj×Aj×Ad×Aa×Aa×Ag×Ao×Bool×Ax×Az×Int
def ScS.sta(r:ScS):O5:=⟨r.2.2.2.1,r.2.2.2.2.1,r.2.2.2.2.2.2.2.1,r.2.2.2.2.2.2.2.2.1,r.2.2.2.2.2.2.2.2.2.1,r.2.2.2.2.2.2.2.2.2.2.1,r.2.2.2.2.2.2.2.2.2.2.2.1,r.2.2.2.2.2.2.2.2.2.2.2.2.1,r.2.2.2.2.2.2.2.2.2.2.2.2.2.1,r.2.2.2.2.2.2.2.2.2.2.2.2.2.2.1,r.2.2.2.2.2.1,r.2.2.2.2.2.2.1⟩
theorem Aul{C B S}{n}(R:NW C B S n)(h:NMS n)(l)(i)(hi:0<=i/\i<10000000)(k)(hk:k<=100)(f):DT (Ql l i n k f) (λ r=>(∀e∈r.1,Mh e)/\(r.1.length:Int)<=max k 0/\r.2.1=l):=by
 unfold Ql;refine tB (Arq R) ?_;rintro ⟨s0,e⟩ ⟨rfl,hs⟩;refine tB (P:=λ r=>(∀e∈r.1,Mh e)/\(r.1.length:Int)<=max k 0/\r.2.1=l) (tL (λ r:ScS=>∃j:Nat,r.2.2.2.2.2.2.2.2.2.2.2.2.2.2.2=(j:Int)/\(j:Int)<=max k 0/\r.1.length=j/\(∀e∈r.1,Mh e)/\r.2.1=l/\i<=r.2.2.1/\r.2.2.1<=i+30*j/\∃V T:Nat,MS C B S V T n r.sta) (λ r=>(max k 0).toNat - r.2.2.2.2.2.2.2.2.2.2.2.2.2.2.2.toNat) ⟨0,rfl,AQ,rfl,all_nil,rfl,AS,AS,_,_,hs⟩ ?_) ?_
 . rintro ⟨ev,H,t,o,q,u,up,cl,Dp,pe,y,w,s,m,g,j0⟩ ⟨j,k1,k2,k3,Y,k5,k6,k7,V,T,E⟩;unfold ScS.sta at E;dsimp only at*;subst k1 k5
   suffices key:∀Q:ScS⊕ScS->Prop,Q (.inr (ev,H,t,o,q,u,up,cl,Dp,pe,y,w,s,m,g,(j:Int)))->(∀(e:G9) (b:Int) (a:O5),(j:Int)<k->Mh e->i<=b->b<=i+30*((j:Int)+1)->(∃V T:Nat,MS C B S V T n a)->Q (.inl ((ev++[e]),H,b,a.CQ,a.CR,a.down,a.up,a.closed,a.Dp,a.C0,a.CO,a.CS,a.C7,a.CX,a.CY,(j:Int)+1)))->DT (We n k f 0 (ev,H,t,o,q,u,up,cl,Dp,pe,y,w,s,m,g,(j:Int))) Q by
     refine key _ ⟨Y,AS,rfl⟩ ?_;intro e b a Dv K v z VD;refine ⟨⟨j+1,AS,AQ,?_,Es Y K,rfl,v,AS,VD⟩,AS⟩;rw[Bw,CM];omega
   intro Q Car Bry;have fin:=tS Car;refine tD (λ Dv=>tD (λ _=>?_) λ _=>fin) λ _=>fin;refine tB (Js _ _ _ AQ AQ) ?_;rintro ⟨x,I,t3⟩ ⟨q1,q2,rfl,rfl⟩;refine tB (Bik E x) ?_;rintro ⟨Z,ok⟩ N;refine tB (Js _ _ _ AQ AQ) ?_;rintro ⟨x2,I,t3⟩ ⟨q3,q4,rfl,rfl⟩;have step:∀(e:G9) (b:Int),Mh e->i<=b->b<=i+30*((j:Int)+1)->DT (cond (decide (ev.length+1<10000000)) (Option.bind (IY n (⟨o,q,cl,Dp,pe,y,w,s,m,g,u,up⟩:O5) e) λ (Kd,x74,x75)=>some (Sum.inl ((ev++[e]),I,b,Kd.CQ,Kd.CR,Kd.down,Kd.up,Kd.closed,Kd.Dp,Kd.C0,Kd.CO,Kd.CS,Kd.C7,Kd.CX,Kd.CY,(i64.wrap ((j:Int)+1))))) none) Q:=by
     intro e b K v z;refine tG AQ λ _=>tB (Awj R E e) ?_;rintro ⟨a,a2,a0⟩ ⟨⟨V2,T2,_,m1⟩,m2⟩;rw[C2 AQ AQ];exact tS (Bry e b a Dv K v z ⟨V2,T2,m1⟩)
   have ord:DT (Option.bind (ML I (t+1+1) n) λ (x77,x78,x79)=>cond (decide (ev.length+1<10000000)) (Option.bind (IY n (⟨o,q,cl,Dp,pe,y,w,s,m,g,u,up⟩:O5) (⟨1,0,0,x77⟩:G9)) λ (Kd,x74,x75)=>some (Sum.inl ((ev++[(⟨1,0,0,x77⟩:G9)]),x78,x79,Kd.CQ,Kd.CR,Kd.down,Kd.up,Kd.closed,Kd.Dp,Kd.C0,Kd.CO,Kd.CS,Kd.C7,Kd.CX,Kd.CY,(i64.wrap ((j:Int)+1))))) none) Q:=by
     refine tB (Bbt R h _ _ AQ) ?_;rintro ⟨tx,l4,b⟩ ⟨U,W,p3,p4⟩;dsimp only at*;rw[W];exact step ⟨1,0,0,tx⟩ b (.inl ⟨rfl,rfl,rfl,U⟩) AQ AQ
   have p:DT (Option.bind (Jk I (t+1+1) (⟨o,q,cl,Dp,pe,y,w,s,m,g,u,up⟩:O5) f) λ (x92,x93,x94)=>cond (decide (ev.length+1<10000000)) (Option.bind (IY n (⟨o,q,cl,Dp,pe,y,w,s,m,g,u,up⟩:O5) x92) λ (Kd,x74,x75)=>some (Sum.inl ((ev++[x92]),x93,x94,Kd.CQ,Kd.CR,Kd.down,Kd.up,Kd.closed,Kd.Dp,Kd.C0,Kd.CO,Kd.CS,Kd.C7,Kd.CX,Kd.CY,(i64.wrap ((j:Int)+1))))) none) Q:=by
     refine tB (Au5 E _ _ AQ f) ?_;rintro ⟨e,l4,b⟩ ⟨U,W,p3,p4⟩;dsimp only at*;rw[W];exact step e b U AQ AQ
   refine tD (λ _=>ord) λ _=>tD (λ _=>ord) λ _=>tC (λ R7=>tD (λ _=>p) λ _=>step Z (t+1+1) (N R7) AQ AQ) λ _=>tD (λ _=>ord) λ _=>tD (λ _=>p) λ _=>p
 . rintro ⟨ev,H,t,o,q,u,up,cl,Dp,pe,y,w,s,m,g,j0⟩ hr;exact tS hr
theorem Aon{α:Type}{l:List α}{i}{x d}(h:l[i]?=some x):i<l.length/\l.getD i d=x:=by
 obtain ⟨a,h2⟩:=Bn.1 h;exact ⟨a,by rw[getD_eq a];exact h2⟩
theorem MK{α:Type}{l:List α}{x}(d:α)(h:x∈l):∃i,i<l.length/\l.getD i d=x:=by
 obtain ⟨i,a⟩:=List.getElem?_of_mem h;exact ⟨i,Aon a⟩
theorem Bbd{f}{n}(hb:n.blocks.length=f)(o:f<=24)(t:n.CV.length<=6)(h:JN f n.CV):Fp n=some ((f:Int)+GO n.CV):=by
 have Fx:=S5 h
 suffices hh:DT (Fp n) (λ r=>r=(f:Int)+GO n.CV) by
   obtain ⟨r,g,h2⟩:=hh;rw[g,h2]
 unfold Fp;refine tB (P:=λ r=>r.1=(f:Int)+GO n.CV) (tL (λ s=>∃i:Nat,s.2=(i:Int)/\i<=n.CV.length/\s.1=(f:Int)+GO (n.CV.take i)) (λ s=>n.CV.length - s.2.toNat) ⟨0,rfl,AQ,by simp[GO,hb]⟩ ?_) (λ ⟨a,b⟩ q=>tS q);rintro ⟨a,j⟩ ⟨i,g,h2,l⟩;subst g l;refine tD (λ Dv=>tI AQ λ x hx _=>tS ⟨⟨i+1,?_,AQ,?_⟩,?_⟩) λ p=>tS ?_
 . dsimp only;rw[C2 AQ AQ];omega
 . have e:=Aon (d:=E3) hx;rw[Be] at e;have m:=S9 h e.1;rw[e.2] at m;have k:=h i e.1;rw[e.2] at k;obtain ⟨_,_,_,_,u,v,w⟩:=k;rw[Hh n.CV i E3 e.1,IN,e.2,C2 AQ AQ];omega
 . dsimp only;rw[C2 AQ AQ];omega
 . have:i=n.CV.length:=AQ;subst this;rw[BE]
theorem Avs(a)(l)(h:JN a l):∀k,k<=l.length->∀x:Int,(a:Int)<=x->x<(a:Int)+GO (l.take k)->∃s∈l,s.base<=x/\x<s.base+s.Ei
 | 0,_,x,b,h2=>by simp only[List.take_zero,GO] at h2;omega
 | k+1,f,x,b,h2=>by
   rw[Hh l k E3 AQ,IN] at h2;by_cases e:x<(a:Int)+GO (l.take k)
   . exact Avs a l h k AQ x b e
   . obtain ⟨_,_,_,_,g,i,j⟩:=h k AQ;exact ⟨_,IF l k E3 AQ,AQ,AQ⟩
theorem NW.of{n}(hb:NC n)(v:n.CV.length<=6)(N:n.C8.length<=8)(e:JN n.blocks.length n.CV)(Bk9:Nx n.CV n.C8)(Q:u_r03_Valid_v n=some true):NW ((n.blocks.length:Int)+GO n.CV).toNat n.blocks.length n.CV.length n:=by
 obtain ⟨B,f,R,El⟩:=hb;have Fx:=S5 e;have E:((((n.blocks.length:Int)+GO n.CV).toNat:Nat):Int)=(n.blocks.length:Int)+GO n.CV:=AQ;have p:∀x∈n.C8,∃s∈n.CV,s.base<=x/\x<s.base+s.Ei:=by
   intro x hx;obtain ⟨i,a,b⟩:=MK 0 hx;obtain ⟨s,t,VD⟩:=Cb.1 (Bk9 i a).1;rw[b] at VD;simp only[inD,BA,BM] at VD;exact ⟨s,t,VD.2⟩
 refine ⟨rfl,B,⟨R,?_,f⟩,rfl,v,?_,?_,AQ,AQ,Q,?_,N,?_,?_⟩
 . intro row r;obtain ⟨i,a,b⟩:=MK [] r;obtain ⟨_,l,z⟩:=El i AQ;rw[b] at l z;refine ⟨AQ,λ x hx=>?_⟩;obtain ⟨k,K,q⟩:=MK 0 hx;obtain ⟨m,o,_,_⟩:=z k K;rw[q] at m o;exact ⟨m,o⟩
 . intro s u;obtain ⟨i,a,b⟩:=MK E3 u;have y:=e i a;have l:=S9 e a;rw[b] at y l;obtain ⟨m,o,S,T,U,V,W⟩:=y;exact ⟨m,o,S,T,U,V,AQ,AQ⟩
 . intro x g h2;refine Avs n.blocks.length n.CV e n.CV.length (Bk _) x g ?_;rw[BE];omega
 . rw[Bbd rfl f v e,E]
 . intro x hx;obtain ⟨s,u,g,h2⟩:=p x hx;obtain ⟨i,a,b⟩:=MK E3 u;have l:=S9 e a;rw[b] at l;omega
 . rw[List.nodup_iff_pairwise_ne,List.pairwise_iff_getElem];intro i j a w I H;have g:=(Bk9 j w).2;rw[getD_eq w,<-H] at g;refine g ?_;rw[Cg];exact ⟨i,by rw[BJ];omega,by rw[List.getElem_take]⟩
end Go.Am
end
noncomputable section
namespace Go.Am
open Go Go.Proofs
open Go.IntKind (i64)
open Tryz
set_option maxRecDepth 100000
set_option linter.unusedVariables false
set_option linter.unusedSimpArgs false
set_option maxHeartbeats 2000000
structure Sfm where
 word:Ac
 kind:Int
 numbers:Int
 deriving DecidableEq
def Ko(l:List Sfm):Ae:=l.map λ x=>[.str x.word,.int .i64 x.kind,.int .i64 x.numbers]
theorem QF{l}{i}{x}(h:CU l i=some x):(Ko l).getD i.toNat []=[.str x.word,.int .i64 x.kind,.int .i64 x.numbers]:=D1 _ h
theorem Aej:Ko []=[]:=rfl
theorem X8(x)(l):Ko (x::l)=[.str x.word,.int .i64 x.kind,.int .i64 x.numbers]::Ko l:=rfl
theorem TG(l):(Ko l).length=l.length:=by simp[Ko]
theorem X7(l)(x):Ko (l++[x])=Ko l++[[.str x.word,.int .i64 x.kind,.int .i64 x.numbers]]:=by simp[Ko]
theorem s8(l)(i)(x):Ko (l.set i x)=(Ko l).set i [.str x.word,.int .i64 x.kind,.int .i64 x.numbers]:=by simp[Ko,BI]
inductive M6 where
 | i (n:Int)
 | s (l:Ac)
def Afj:M6->Pd
 | .i n=> .ifi 3 .i64 n
 | .s l=> .ifs 9 l
theorem Bid(n):Afj (.i n)= .ifi 3 .i64 n:=rfl
theorem Bic(l):Afj (.s l)= .ifs 9 l:=rfl
def WG:M6->Bool
 | .i _=>true
 | .s _=>false
def RO:M6->Int
 | .i n=>n
 | .s _=>0
def Afi:M6->Ac
 | .i _=>[]
 | .s l=>l
theorem Bnz:Dz prog 20=some ⟨1,16,.other,.bad⟩:=AX
theorem Bu8(x):asD prog 3 (.p (Afj x))=some (.Em [.p (.int .i64 (RO x)),.p (.bool (WG x))]):=by cases x<;>simp[Afj,asD,ti3,asV,Vw,RO,WG]
theorem Bu7(x):asD prog 9 (.p (Afj x))=some (.Em [.p (.str (Afi x)),.p (.bool (!WG x))]):=by cases x<;>simp[Afj,asD,ti9,asV,Vw,Afi,WG]
attribute [go_sem] Bnz Bid Bic
attribute [go_sem high] Bu8 Bu7
def HY(l:List M6):Ae:=l.map λ x=>[Afj x]
theorem Bb5{l}{i}{x}(h:CU l i=some x):(HY l).getD i.toNat []=[Afj x]:=D1 _ h
theorem WB:HY []=[]:=rfl
theorem RD(x)(l):HY (x::l)=[Afj x]::HY l:=rfl
theorem TU(l):(HY l).length=l.length:=by simp[HY]
theorem Yf(l)(x):HY (l++[x])=HY l++[[Afj x]]:=by simp[HY]
theorem Aa4(l)(i)(x):HY (l.set i x)=(HY l).set i [Afj x]:=by simp[HY,BI]
theorem RC(l):P0 1 (HY l):=by intro e a;simp only[HY,BR] at a;obtain ⟨x,_,rfl⟩:=a;rfl
theorem Gn(l)(n):(HY l).take n=HY (l.take n):=by simp[HY,CE]
theorem F9:(∀(l:List M6) (i:Nat) (x:M6),(l.set i x).take l.length=l.set i x):=λ l i x=>Bx AT
theorem Pq(l)(n):∀e∈(HY l).take n,e.length=1:=λ e h=>by have:=CA h;simp only[HY,BR] at this;obtain ⟨x,_,rfl⟩:=this;rfl
attribute [go_sem] TG TU
theorem ZEs:(type_of% @Aej)/\(type_of% @X8)/\(type_of% @X7)/\(type_of% @s8)/\(type_of% @TG)/\(type_of% @WB)/\(type_of% @RD)/\(type_of% @Yf)/\(type_of% @Aa4)/\(type_of% @TU):=⟨@Aej,@X8,@X7,@s8,@TG,@WB,@RD,@Yf,@Aa4,@TU⟩
abbrev Sfm.c(a:Sfm):Ah:=[.p (.str a.word),.p (.int .i64 a.kind),.p (.int .i64 a.numbers)]
attribute [simp,go_sem] Sfm.c
theorem FGs{st Lt}(h:Le st Lt:=by simp[ZF,ZE,ZEu,DX.h,GI.h,DX.h2,GI.h2,ZEs,HF,FH,Hq,Hr,T4,No,Bv,BN,GQ, *]):Wk st Lt:=Wk.forget h
theorem ALs{p q:Prop}{st Lt}(f:Wk st Lt->q)(e:p=q:=by (try simp only[go_sem, *])<;>rfl)(h:Le st Lt:=by simp[ZF,ZE,ZEu,DX.h,GI.h,DX.h2,GI.h2,ZEs,HF,FH,Hq,Hr,T4,No,Bv,BN,GQ, *]):p:=Eq.mpr e (f (Wk.forget h))
theorem XPs{x}{k:Kt}{st:St}{σ ε:Type}{step:σ->Option (σ⊕ε)}{b:σ}{e:ε}{S:σ->St}(f:C9 step b=some e)(I J:Aq)(E:σ->Ar)(H:σ->Hp)
   (g:∀s n,(step s).bind (GU (H4 step n))=some e->(∀a st',H4 step n a=some e->Wk st' (S a)->L prog x k n st')->X prog x (.lp x n k) (S s))
   (i:∀q,⟨Asj st.env I++E q,V8 st.hp J++H q,st.n⟩=S q:=by intro q;(try simp only[go_sem])<;>rfl) (h:Le st (S b):=by simp[ZF,ZE,ZEu,DX.h,GI.h,DX.h2,GI.h2,ZEs,HF,FH,Hq,Hr,T4,No,Bv,BN,GQ, *]):X prog (.loop x) k st:=EX f S (Wk.forget h) g
theorem Agy{a:Prop}{x}{k:Kt}{st:St}{σ ε:Type}{step:σ->Option (σ⊕ε)}{f:σ}{e:ε}{S:σ->St}(j:C9 step f=some e)(I J:Aq)(E:σ->Ar)(H:σ->Hp)
   (l:∀s n,(step s).bind (GU (H4 step n))=some e->(∀b st',H4 step n b=some e->Wk st' (S b)->L prog x k n st')->X prog x (.lp x n k) (S s))
   (g:a=(X prog (.loop x) k st):=by (try simp only[go_sem, *])<;>rfl) (i:∀q,⟨Asj st.env I++E q,V8 st.hp J++H q,st.n⟩=S q:=by intro q;(try simp only[go_sem])<;>rfl) (h:Le st (S f):=by simp[ZF,ZE,ZEu,DX.h,GI.h,DX.h2,GI.h2,ZEs,HF,FH,Hq,Hr,T4,No,Bv,BN,GQ, *]):a:=Eq.mpr g (XPs j I J E H l i h)
def Acs(s:Ac):Option (AB×Int×Int):=some (D9 s)
theorem Asi(s)(r)(h:Acs s=some r):C4 prog 26 [.p (.str s)] [] λ h d=>h=[]/\d= .Em [sD (Kp r.1),iD r.2.1,iD r.2.2]:=by cases h;exact Ahw s
def Oh(s:Ac):Option (AB×Int×Int):=some (D9 s)
theorem Wg(s)(r)(h:Oh s=some r):C4 prog 24 [.p (.str s)] [] λ h d=>h=[]/\d= .Em [sD (Kp r.1),iD r.2.1,iD r.2.2]:=by cases h;exact Axa s
def Qk(s:Ac):Option (Int×Bool):=some (GP s)
theorem Anp(s)(r)(h:Qk s=some r):C4 prog 59 [.p (.str s)] [] λ h d=>h=[]/\d= .Em [iD r.1,bD r.2]:=by cases h;exact Ad5 s
def Qn(s:Ac):Option (Int×Bool):=some (GP s)
theorem Aoa(s)(r)(h:Qn s=some r):C4 prog 55 [.p (.str s)] [] λ h d=>h=[]/\d= .Em [iD r.1,bD r.2]:=by cases h;exact Aso s
def Xx(a:Ai):Option Ac:=if a.length<=100000000/\PX a<=1000000000000 then some (Et a) else none
theorem Ash(fs)(r)(h:Xx fs=some r):C4 prog 57 [sD (Eg fs)] [] λ h d=>h=[]/\d= .p (.str r):=by unfold Xx at h;split at h<;>cases h;rename_i a;exact Bcn fs a.1 a.2
def Acu(n:Int):Option Ac:=if -1000000000000000<=n/\n<=1000000000000000 then some (TZ n) else none
theorem Anq{n r}(h:Acu n=some r):C4 prog 15 [iD n] [] λ h d=>h=[]/\d= .p (.str r):=by
 unfold Acu at h;split at h
 . rename_i c;cases h;exact Aja n c.1 c.2
 . cases h
theorem Abh{l}{i}{x}(h:CU l i=some x):(Kp l).getD i.toNat []=[.int .i64 x.num,.sl (Eg x.fs)]:=D1 _ h
def Qf(a:Ac):Option (Int×Int):=
 cond (a=[100,111,119,110]) (some (2,2)) (cond (a=[117,112]) (some (3,2)) (cond (a=[108,111,115,101,45,100,111,119,110]) (some (4,2)) (cond (a=[108,111,115,101,45,117,112]) (some (5,2)) (cond (a=[116,119,105,99,101,45,100,111,119,110]) (some (6,2)) (cond (a=[116,119,105,99,101,45,117,112]) (some (7,2)) (cond (a=[116,105,109,101,114]) (some (8,1)) (cond (a=[100,114,105,118,101]) (some (9,1)) (cond (a=[115,101,114,118,101]) (some (10,1)) (cond (a=[102,97,117,108,116]) (some (11,1)) (some (0,0)))))))))))
theorem Acg{b r}(a:Qf b=some r):
   Rq 58 [.p (.str b)] [] [] (.Em [iD r.1,iD r.2]):=by
 refine EA func58 Bg6 ?_;unfold Qf at a;obtain ⟨_,a⟩ | ⟨_,a⟩:=cE a
 . obtain ⟨_,a⟩ | ⟨_,a⟩:=cE a
   . obtain ⟨_,a⟩ | ⟨_,a⟩:=cE a
     . obtain ⟨_,a⟩ | ⟨_,a⟩:=cE a
       . obtain ⟨_,a⟩ | ⟨_,a⟩:=cE a
         . obtain ⟨_,a⟩ | ⟨_,a⟩:=cE a
           . obtain ⟨_,a⟩ | ⟨_,a⟩:=cE a
             . obtain ⟨_,a⟩ | ⟨_,a⟩:=cE a
               . obtain ⟨_,a⟩ | ⟨_,a⟩:=cE a
                 . refine cP a λ _ a=>?_;exact zP a
                 exact zP a
               exact zP a
             exact zP a
           exact zP a
         exact zP a
       exact zP a
     exact zP a
   exact zP a
 exact zP a
def LZ(a:Ai)(b:Int):Int×Int×Int->Option ((Int×Int×Int)⊕((Int×Int×Int)⊕(G9×Int)))
 | (H3,IW,My)=>cond (My<=b) ((CU a My).bind λ GA=>(Qk GA).bind λ (RV,Mv)=>cond Mv (cond (RV<0) (some (.inr (.inr ((((⟨0,0,0,[]⟩:G9),7):G9×Int))))) (cond (My=1) (some (.inl (RV,IW,(i64.wrap (My+1))))) (some (.inl (H3,RV,(i64.wrap (My+1))))))) (some (.inr (.inr ((((⟨0,0,0,[]⟩:G9),7):G9×Int)))))) (some (.inr (.inl (H3,IW,My))))
def Qi(a:Ai):Option (G9×Int):=
 (CU a 0).bind λ g=>cond (g=[111,114,100,101,114]) (cond (4<(a.length:Int)) (some ((⟨0,0,0,[]⟩:G9),5)) (cond (0<=1/\1<=(a.length:Int)/\(a.length:Int)<=(a.length:Int)) ((Xx ((a.take a.length).drop 1)).bind λ f=>some ((⟨1,0,0,f⟩:G9),0)) none)) ((Qf g).bind λ (x6,x7)=>cond (x6=0) (some ((⟨0,0,0,[]⟩:G9),4)) (cond ((a.length:Int)=(i64.wrap (1+x7))) ((C9 (LZ a x7) (0,0,1)).bind (λ | .inl (QX,e,i)=>some ((⟨x6,QX,e,[]⟩:G9),0) | .inr (b)=>some b)) (some ((⟨0,0,0,[]⟩:G9),5))))
theorem Ase{b r}(a:Qi b=some r):
   Rq 27 [sD (Eg b)] [] [] (.Em [.agg r.1.c,iD r.2]):=by
 refine EA func27 Bgs ?_;unfold Qi at a;obtain ⟨_,a,k,_⟩:=iE a;have _:(Eg b).getD 0 []=_:=Ya k;obtain ⟨_,a⟩ | ⟨_,a⟩:=cE a
 . refine Ec a Acg ?_;rintro ⟨l,_⟩ a;obtain ⟨_,a⟩ | ⟨_,a⟩:=cE a
   . refine cP a λ _ a=>?_;obtain ⟨j,f,a⟩:=bE a;refine Agy f [0,2,5,6] [2] (λ q=>[(7,iD q.2.2)]) (λ q=>[(6,.box [iD l,iD q.1,iD q.2.1,.p (.str [])])]) ?_;rintro ⟨H3,IW,My⟩ _ E4 At2;rw[LZ.eq_1] at E4;obtain ⟨_,E4⟩ | ⟨_,E4⟩:=cK E4
     . cases kR E4;exact zP a
     obtain ⟨GA,E4,_⟩:=jK Ya E4;obtain ⟨⟨_,_⟩,g,E4⟩:=bK E4;refine A ?_;refine YA (Anp GA _ g) ?_;obtain ⟨_,E4⟩ | ⟨_,E4⟩:=cK E4
     . cases kR E4;exact zP a
     obtain ⟨_,E4⟩ | ⟨_,E4⟩:=cK E4
     . obtain ⟨_,E4⟩ | ⟨_,E4⟩:=cK E4
       . exact ALs (At2 _ _ (kI E4))
       exact ALs (At2 _ _ (kI E4))
     cases kR E4;exact zP a
   exact zP a
 obtain ⟨_,a⟩ | ⟨_,a⟩:=cE a
 . obtain ⟨e,a⟩:=gE a;have _:=Bg e;obtain ⟨_,i,a⟩:=bE a;(try simp only[go_sem, *,TH b]);refine YA (Ash ((b.take b.length).drop 1) _ i) ?_;exact zP a
 exact zP a
def YX(e:AB):Au×Int->Option ((Au×Int)⊕((Au×Int)⊕(Au×Int×Int)))
 | (b,a)=>cond (a<(e.length:Int)) ((CU e a).bind λ Hy=>(Qi Hy.fs).bind λ (I4,Fj)=>cond (Fj=0) (cond (b.length+1<10000000) (some (.inl ((b++[I4]),(i64.wrap (a+1))))) none) (some (.inr (.inr ((([],Hy.num,Fj):Au×Int×Int)))))) (some (.inr (.inl (b,a))))
def Tf(b:Ac):Option (Au×Int×Int):=
 (Acs b).bind λ (x1,x2,x3)=>cond (x3=0) ((C9 (YX x1) ([],0)).bind (λ | .inl (RZ,YP)=>cond (4000<(RZ.length:Int)) (some ([],0,14)) (some (RZ,0,0)) | .inr (a)=>some a)) (some ([],x2,x3))
theorem Acj{b r}(a:Tf b=some r):
   Rq 10 [.p (.str b)] [] [] (.Em [sD (E5 r.1),iD r.2.1,iD r.2.2]):=by
 refine EA func10 Bh5 ?_;unfold Tf at a;obtain ⟨⟨j,_,_⟩,i,a⟩:=bE a;refine A ?_;refine YA (Asi b _ i) ?_;refine cP a λ _ a=>?_;obtain ⟨g,f,a⟩:=bE a;refine A ?_;refine EX f (λ q=>⟨[(5,sD (Kp j)),(8,rD 48 q.1),(9,iD q.2)],[(48,.arr 49 4 (E5 q.1))],53⟩) ((Wk.nil (t:=8) (q:=48) (sz:=4) 49 rfl rfl AV).trans FGs) ?_;rintro ⟨k,l⟩ _ EM Agd;rw[YX.eq_1] at EM;obtain ⟨_,EM⟩ | ⟨_,EM⟩:=cK EM
 . cases kR EM;refine cP a λ _ a=>?_;exact zP a
 obtain ⟨_,EM,_⟩:=jK Abh EM;refine Fy EM Ase ?_;rintro ⟨_,_⟩ EM;obtain ⟨_,EM⟩ | ⟨_,EM⟩:=cK EM
 . refine Dd [0,0,0,0,0,0,0,0,0] ?_;cases kR EM;exact zP a
 obtain ⟨e,EM⟩:=gK EM;refine He e ?_;exact ALs (Agd _ _ (kI EM))
def Acl(e:G9):Int->Option ((Int)⊕(Int⊕Ac))
 | f=>cond (f<10) ((CU [[100,111,119,110],[117,112],[108,111,115,101,45,100,111,119,110],[108,111,115,101,45,117,112],[116,119,105,99,101,45,100,111,119,110],[116,119,105,99,101,45,117,112],[116,105,109,101,114],[100,114,105,118,101],[115,101,114,118,101],[102,97,117,108,116]] f).bind λ Ir=>(Qf Ir).bind λ (I8,Jt)=>cond (I8=e.kind) (cond (e.a<0) (some (.inr (.inr (([]:Ac))))) (cond (9999<e.a) (some (.inr (.inr (([]:Ac))))) (cond (e.b<0) (some (.inr (.inr (([]:Ac))))) (cond (9999<e.b) (some (.inr (.inr (([]:Ac))))) (cond (Ir.length+[32].length<10000000) ((Acu e.a).bind λ GA=>cond ((Ir++[32]).length+GA.length<10000000) (cond (Jt=2) ((Acu e.b).bind λ Mv=>cond ([32].length+Mv.length<10000000) (cond (((Ir++[32])++GA).length+([32]++Mv).length<10000000) (some (.inr (.inr (((((Ir++[32])++GA)++([32]++Mv)):Ac))))) none) none) (some (.inr (.inr ((((Ir++[32])++GA):Ac)))))) none) none))))) (some (.inl (i64.wrap (f+1))))) (some (.inr (.inl f)))
def Uk(a:G9):Option Ac:=
 cond (a.kind=1) (cond (a.text=[]) (some [111,114,100,101,114]) (cond ([111,114,100,101,114,32].length+a.text.length<10000000) (some ([111,114,100,101,114,32]++a.text)) none)) ((C9 (Acl a) 0).bind (λ | .inl e=>some [] | .inr (b)=>some b))
theorem Ahc{e r}(a:Uk e=some r):
   Rq 32 [.agg e.c] [] [] (.p (.str r)):=by
 refine EA func32 Bgq ?_;unfold Uk at a;obtain ⟨_,a⟩ | ⟨_,a⟩:=cE a
 . obtain ⟨y,x,a⟩:=bE a;refine Agy x [1,3] [1,17] (λ q=>[(4,iD q)]) (λ _=>[]) ?_;rintro w _ GS v;rw[Acl.eq_1] at GS;obtain ⟨_,GS⟩ | ⟨_,GS⟩:=cK GS
   . cases kR GS;exact zP a
   obtain ⟨Ir,b,GS⟩:=bK GS;have _:0<=w/\w<10:=by have:=EK b;simp only[Br,Bz] at this;omega
   have l:(Eg [[100,111,119,110],[117,112],[108,111,115,101,45,100,111,119,110],[108,111,115,101,45,117,112],[116,119,105,99,101,45,100,111,119,110],[116,119,105,99,101,45,117,112],[116,105,109,101,114],[100,114,105,118,101],[115,101,114,118,101],[102,97,117,108,116]]).getD (Int.toNat w) []=[(.str Ir)]:=D1 _ b;have m:=l;(try simp only[FY,FX,FW,GZ,FV,GY,FZ,G1] at m);refine Fy GS Acg ?_;rintro ⟨_,_⟩ GS;obtain ⟨_,GS⟩ | ⟨_,GS⟩:=cK GS
   . exact ALs (v _ _ (kI GS))
   obtain ⟨_,GS⟩ | ⟨_,GS⟩:=cK GS
   . obtain ⟨_,GS⟩ | ⟨_,GS⟩:=cK GS
     . obtain ⟨_,GS⟩ | ⟨_,GS⟩:=cK GS
       . obtain ⟨_,GS⟩ | ⟨_,GS⟩:=cK GS
         . refine Dd [0,0,0,0,0,0,0,2,0,0] ?_;obtain ⟨f,GS⟩:=gK GS;have n:Ir.length+[32].length<=maxLen:=by have:=Bg f;(try dsimp only at this);unfold maxLen;omega
           have Cba:=n;(try simp only[go_sem] at Cba);refine Sc GS Anq λ GA GS=>?_;obtain ⟨g,GS⟩:=gK GS;have o:(Ir++[32]).length+GA.length<=maxLen:=by have:=Bg g;(try dsimp only at this);unfold maxLen;omega
           have Cb8:=o;(try simp only[go_sem] at Cb8);obtain ⟨_,GS⟩ | ⟨_,GS⟩:=cK GS
           . cases kR GS;exact zP a
           refine Fy GS Anq λ Mv GS=>?_;obtain ⟨i,GS⟩:=gK GS;have s:[32].length+Mv.length<=maxLen:=by have:=Bg i;(try dsimp only at this);unfold maxLen;omega
           have Bph:=s;(try simp only[go_sem] at Bph);obtain ⟨j,GS⟩:=gK GS;have t:((Ir++[32])++GA).length+([32]++Mv).length<=maxLen:=by have:=Bg j;(try dsimp only at this);unfold maxLen;omega
           have Bpg:=t;(try simp only[go_sem] at Bpg);cases kR GS;exact zP a
         cases kR GS;exact zP a
       cases kR GS;exact zP a
     cases kR GS;exact zP a
   cases kR GS;exact zP a
 obtain ⟨_,a⟩ | ⟨_,a⟩:=cE a
 . obtain ⟨k,a⟩:=gE a;have u:[111,114,100,101,114,32].length+e.text.length<=maxLen:=by have:=Bg k;(try dsimp only at this);unfold maxLen;omega
   have Cb5:=u;(try simp only[go_sem] at Cb5);exact zP a
 exact zP a
def V3(b:Au):Ac×Int->Option ((Ac×Int)⊕((Ac×Int)⊕(Ac×Int)))
 | (a,I9)=>cond (I9<(b.length:Int)) ((CU b I9).bind λ RX=>(Uk RX).bind λ RW=>cond (RW.length+[10].length<10000000) (cond (a.length+(RW++[10]).length<10000000) (cond (6000<(((a++(RW++[10])).length:Nat):Int)) (some (.inr (.inr ((([],1):Ac×Int))))) (some (.inl ((a++(RW++[10])),(i64.wrap (I9+1)))))) none) none) (some (.inr (.inl (a,I9))))
def Ri(f:Au):Int->Option ((Int)⊕(Int⊕(Ac×Int)))
 | e=>cond (e<(f.length:Int)) ((CU f e).bind λ Nj=>(Uk Nj).bind λ H6=>(Tf H6).bind λ (QW,KO,x42)=>cond (x42=0) (cond ((QW.length:Int)=1) ((CU QW 0).bind λ NG=>cond ((NG.kind=Nj.kind)&&(decide (NG.a=Nj.a)&&(decide (NG.b=Nj.b)&&decide (NG.text=Nj.text)))) (some (.inl (i64.wrap (e+1)))) (some (.inr (.inr ((([],20):Ac×Int)))))) (some (.inr (.inr ((([],20):Ac×Int)))))) (some (.inr (.inr ((([],20):Ac×Int)))))) (some (.inr (.inl e)))
def Qh(a:Au):Option (Ac×Int):=
 cond (4000<(a.length:Int)) (some ([],14)) ((C9 (Ri a) 0).bind (λ | .inl g=>(C9 (V3 a) ([],0)).bind (λ | .inl (f,i)=>some (f,0) | .inr (b)=>some b) | .inr (e)=>some e))
theorem Anj{m r}(a:Qh m=some r):
   Rq 12 [sD (E5 m)] [] [] (.Em [.p (.str r.1),iD r.2]):=by
 refine EA func12 Bh3 ?_;unfold Qh at a;obtain ⟨_,a⟩ | ⟨_,a⟩:=cE a
 . obtain ⟨s,o,a⟩:=bE a;refine Agy o [0] [] (λ q=>[(4,iD q)]) (λ _=>[]) ?_;rintro t _ GS k;rw[Ri.eq_1] at GS;obtain ⟨_,GS⟩ | ⟨_,GS⟩:=cK GS
   . cases kR GS;obtain ⟨n,i,a⟩:=bE a;refine Agy i [0] [] (λ q=>[(8,.p (.str q.1)),(9,iD q.2)]) (λ _=>[]) ?_;rintro ⟨l,I9⟩ _ EP Aax;rw[V3.eq_1] at EP;obtain ⟨_,EP⟩ | ⟨_,EP⟩:=cK EP
     . cases kR EP;exact zP a
     obtain ⟨_,EP,_⟩:=jK MV EP;refine Fy EP Ahc λ RW EP=>?_;obtain ⟨b,EP⟩:=gK EP;have f:RW.length+[10].length<=maxLen:=by have:=Bg b;(try dsimp only at this);unfold maxLen;omega
     have Cb9:=f;(try simp only[go_sem] at Cb9);obtain ⟨e,EP⟩:=gK EP;have g:l.length+(RW++[10]).length<=maxLen:=by have:=Bg e;(try dsimp only at this);unfold maxLen;omega
     have Cb7:=g;(try simp only[go_sem] at Cb7);obtain ⟨_,EP⟩ | ⟨_,EP⟩:=cK EP
     . exact ALs (Aax _ _ (kI EP))
     cases kR EP;exact zP a
   obtain ⟨_,GS,_⟩:=jK MV GS;refine Fy GS Ahc λ _ GS=>?_;refine Fy GS Acj ?_;rintro ⟨QW,_,_⟩ GS;refine Dd [0,0,0,0,0,0,0,0,0,0,0,0,0,0,0,0,0] ?_;obtain ⟨_,GS⟩ | ⟨_,GS⟩:=cK GS
   . cases kR GS;exact zP a
   obtain ⟨_,GS⟩ | ⟨_,GS⟩:=cK GS
   . cases kR GS;exact zP a
   obtain ⟨_,GS,j,_⟩:=iK GS;have _:(E5 QW).getD 0 []=_:=MV j;obtain ⟨_,GS⟩ | ⟨_,GS⟩:=cK GS
   . cases kR GS;exact zP a
   exact ALs (k _ _ (kI GS))
 exact zP a
def Xt(f:Au)(g:Au):Int->Option ((Int)⊕(Int⊕Bool))
 | e=>cond (e<(f.length:Int)) ((CU f e).bind λ Ir=>(CU g e).bind λ Jb=>cond ((Ir.kind=Jb.kind)&&(decide (Ir.a=Jb.a)&&(decide (Ir.b=Jb.b)&&decide (Ir.text=Jb.text)))) (some (.inl (i64.wrap (e+1)))) (some (.inr (.inr false)))) (some (.inr (.inl e)))
def Ab9(b:Au)(e:Au):Option (Bool):=
 cond ((b.length:Int)=(e.length:Int)) ((C9 (Xt b e) 0).bind (λ | .inl M7=>some true | .inr (a)=>some a)) (some false)
theorem Awy{e f r}(a:Ab9 e f=some r):
   Rq 13 [sD (E5 e),sD (E5 f)] [] [] (bD r):=by
 refine EA func13 Bh2 ?_;unfold Ab9 at a;refine cP a λ _ a=>?_;obtain ⟨i,g,a⟩:=bE a;refine Agy g [0,1] [] (λ q=>[(5,iD q)]) (λ _=>[]) ?_;rintro j _ GS b;rw[Xt.eq_1] at GS;obtain ⟨_,GS⟩ | ⟨_,GS⟩:=cK GS
 . cases kR GS;exact zP a
 refine Dd [0,0,0,0,0,0,0,0,0] ?_;obtain ⟨_,GS,_⟩:=jK MV GS;obtain ⟨_,GS,_⟩:=jK MV GS;obtain ⟨_,GS⟩ | ⟨_,GS⟩:=cK GS
 . cases kR GS;exact zP a
 exact ALs (b _ _ (kI GS))
def Uo(a:Ai)(s:Ac):Option Ac:=if s=[32]/\a.length<=100000000/\PX a<=1000000000000 then some (Et a) else none
theorem Ahp(fs)(s)(r)(h:Uo fs s=some r):C4 prog 51 [sD (Eg fs),.p (.str s)] [] λ h d=>h=[]/\d= .p (.str r):=by
 unfold Uo at h;split at h
 . rename_i e;cases h;obtain ⟨rfl,b,h2⟩:=e;by_cases a:fs=[]
   . subst a;exact Bdr
   . exact Bdq fs a b h2
 . cases h
def MI:Option ((List Sfm)):=
 some [(⟨[100,111,119,110],2,2⟩:Sfm),(⟨[117,112],3,2⟩:Sfm),(⟨[108,111,115,101,45,100,111,119,110],4,2⟩:Sfm),(⟨[108,111,115,101,45,117,112],5,2⟩:Sfm),(⟨[116,119,105,99,101,45,100,111,119,110],6,2⟩:Sfm),(⟨[116,119,105,99,101,45,117,112],7,2⟩:Sfm),(⟨[116,105,109,101,114],8,1⟩:Sfm),(⟨[100,114,105,118,101],9,1⟩:Sfm),(⟨[115,101,114,118,101],10,1⟩:Sfm),(⟨[102,97,117,108,116],11,1⟩:Sfm)]
theorem Og{r}(a:MI=some r):
   Rq 53 [] [] [] (sD (Ko r)):=by
 refine EA func53 Bgb ?_;unfold MI at a;exact zP a
def IZ(b:Sfm)(a:Ai):Option (Bool×Ai):=
 (CU a 0).bind λ e=>some (decide (b.word=e),a)
theorem UT{e b r}(a:IZ e b=some r):
   Rq 54 [.agg e.c,.ptr 1000000 0] [(1000000,.box [sD (Eg b)])] [(1000000,.box [sD (Eg r.2)])] (bD r.1):=by
 refine EA func54 Bga ?_;unfold IZ at a;refine Dd [0,0,0,0,0,0,0] ?_;obtain ⟨_,a,f,_⟩:=iE a;have _:(Eg b).getD 0 []=_:=Ya f;exact zO a
def IU(b:List Sfm):Ai×Int->Option ((Ai×Int)⊕((Ai×Int)⊕(Int×Ai)))
 | (e,a)=>cond (a<(b.length:Int)) ((CU b a).bind λ G3=>(IZ G3 e).bind λ (I8,Jt)=>cond I8 (some (.inr (.inr (((a,Jt):Int×Ai))))) (some (.inl (Jt,(i64.wrap (a+1)))))) (some (.inr (.inl (e,a))))
def GG(b:List Sfm)(e:Ai):Option (Int×Ai):=
 (C9 (IU b) (e,0)).bind (λ | .inl (M7,f)=>some ((-1),M7) | .inr (a)=>some a)
theorem Rg{b e r}(a:GG b e=some r):
   Rq 52 [sD (Ko b),.fn 54 [.ptr 1000000 0]] [(1000000,.box [sD (Eg e)])] [(1000000,.box [sD (Eg r.2)])] (iD r.1):=by
 refine EA func52 Ap6 ?_;unfold GG at a;obtain ⟨g,f,a⟩:=bE a;refine Agy f [0,1,7] [] (λ q=>[(8,iD q.2)]) (λ q=>[(1000000,.box [sD (Eg q.1)])]) ?_;rintro ⟨i,j⟩ _ EU Y9;rw[IU.eq_1] at EU;obtain ⟨_,EU⟩ | ⟨_,EU⟩:=cK EU
 . cases kR EU;exact zO a
 obtain ⟨_,EU,_⟩:=jK QF EU;refine Fy EU UT ?_;rintro ⟨_,_⟩ EU;obtain ⟨_,EU⟩ | ⟨_,EU⟩:=cK EU
 . exact ALs (Y9 _ _ (kI EU))
 cases kR EU;exact zO a
def Kj(b:Ai):Aa×Int->Option ((Aa×Int)⊕((Aa×Int)⊕(G9×Int)))
 | (O8,a)=>cond (a<((((b.take b.length).drop 1).length:Nat):Int)) ((CU ((b.take b.length).drop 1) a).bind λ Mu=>(Qn Mu).bind λ (Ue,NF)=>cond NF (cond (Ue<0) (some (.inr (.inr ((((⟨0,0,0,[]⟩:G9),7):G9×Int))))) ((Adn 2 O8 a).bind λ e=>some (.inl ((O8.set a.toNat Ue),(i64.wrap (a+1)))))) (some (.inr (.inr ((((⟨0,0,0,[]⟩:G9),7):G9×Int)))))) (some (.inr (.inl (O8,a))))
def JB(a:Ai):Option (G9×Int):=
 (CU a 0).bind λ j=>cond (j=[111,114,100,101,114]) (cond (4<(a.length:Int)) (some ((⟨0,0,0,[]⟩:G9),5)) (cond (0<=1/\1<=(a.length:Int)/\(a.length:Int)<=(a.length:Int)) ((Uo ((a.take a.length).drop 1) [32]).bind λ i=>some ((⟨1,0,0,i⟩:G9),0)) none)) (Option.bind MI λ k=>(GG k a).bind λ (x8,x9)=>cond (x8<0) (some ((⟨0,0,0,[]⟩:G9),4)) (Option.bind MI λ Ju=>(CU Ju x8).bind λ Jb=>cond ((x9.length:Int)=(i64.wrap (1+Jb.numbers))) (cond (0<=1/\1<=(x9.length:Int)/\(x9.length:Int)<=(x9.length:Int)) ((C9 (Kj x9) ((List.replicate 2 0),0)).bind (λ | .inl (b,WW)=>(Adn 2 b 0).bind λ f=>(Adn 2 b 1).bind λ g=>some ((⟨Jb.kind,f,g,[]⟩:G9),0) | .inr (e)=>some e)) none) (some ((⟨0,0,0,[]⟩:G9),5))))
theorem Tl{e r}(a:JB e=some r):
   Rq 25 [sD (Eg e)] [] [] (.Em [.agg r.1.c,iD r.2]):=by
 refine EA func25 Bgu ?_;unfold JB at a;obtain ⟨_,a,w,_⟩:=iE a;have _:(Eg e).getD 0 []=_:=Ya w;obtain ⟨_,a⟩ | ⟨_,a⟩:=cE a
 . refine Ec a Og λ _ a=>?_;refine Ec a Rg ?_;rintro ⟨_,x⟩ a;obtain ⟨_,a⟩ | ⟨_,a⟩:=cE a
   . refine Ec a Og λ _ a=>?_;obtain ⟨_,a,_⟩:=jE QF a;refine cP a λ _ a=>?_;obtain ⟨f,a⟩:=gE a;have _:=Bg f;obtain ⟨v,k,a⟩:=bE a;(try simp only[go_sem, *,TH x]);refine XPs k [2,5,6,41,42] [2,5] (λ q=>[(43,iD q.2)]) (λ q=>[(6,.box (dI q.1))]) ?_;rintro ⟨O8,b⟩ _ Ld Boi;rw[Kj.eq_1] at Ld;obtain ⟨_,Ld⟩ | ⟨_,Ld⟩:=cK Ld
     . cases kR Ld;obtain ⟨_,l,a⟩:=bE a;obtain ⟨_,s,i,_⟩:=Ur l;have _:0<=0/\0<2:=AQ;have _:0<=1:=AQ;simp only[Int.reduceToNat] at i;obtain ⟨_,m,a⟩:=bE a;obtain ⟨_,t,j,_⟩:=Ur m;have _:0<=1/\1<2:=AQ;have _:1<=1:=AQ;simp only[Int.reduceToNat] at j;exact zP a
     obtain ⟨Mu,Ld,_⟩:=jK Ya Ld;obtain ⟨⟨_,_⟩,n,Ld⟩:=bK Ld;refine A ?_;refine YA (Aoa Mu _ n) ?_;obtain ⟨_,Ld⟩ | ⟨_,Ld⟩:=cK Ld
     . cases kR Ld;exact zP a
     obtain ⟨_,Ld⟩ | ⟨_,Ld⟩:=cK Ld
     . obtain ⟨_,o,Ld⟩:=bK Ld;obtain ⟨_,u,_,_⟩:=Ur o;have _:0<=b/\b<2:=AQ;have _:(Int.toNat b)<=1:=AQ;exact ALs (Boi _ _ (kI Ld))
     cases kR Ld;exact zP a
   exact zP a
 obtain ⟨_,a⟩ | ⟨_,a⟩:=cE a
 . obtain ⟨g,a⟩:=gE a;have _:=Bg g;obtain ⟨_,p,a⟩:=bE a;(try simp only[go_sem, *,TH e]);refine YA (Ahp ((e.take e.length).drop 1) [32] _ p) ?_;exact zP a
 exact zP a
def Y1(e:AB):Au×Int->Option ((Au×Int)⊕((Au×Int)⊕(Au×Int×Int)))
 | (b,a)=>cond (a<(e.length:Int)) ((CU e a).bind λ Hy=>(JB Hy.fs).bind λ (I4,Fj)=>cond (Fj=0) (cond (b.length+1<10000000) (some (.inl ((b++[I4]),(i64.wrap (a+1))))) none) (some (.inr (.inr ((([],Hy.num,Fj):Au×Int×Int)))))) (some (.inr (.inl (b,a))))
def Tk(b:Ac):Option (Au×Int×Int):=
 (Oh b).bind λ (x1,x2,x3)=>cond (x3=0) ((C9 (Y1 x1) ([],0)).bind (λ | .inl (RZ,YP)=>cond (4000<(RZ.length:Int)) (some ([],0,14)) (some (RZ,0,0)) | .inr (a)=>some a)) (some ([],x2,x3))
theorem Ad2{b r}(a:Tk b=some r):
   Rq 9 [.p (.str b)] [] [] (.Em [sD (E5 r.1),iD r.2.1,iD r.2.2]):=by
 refine EA func9 Bkm ?_;unfold Tk at a;obtain ⟨⟨g,_,_⟩,j,a⟩:=bE a;refine A ?_;refine YA (Wg b _ j) ?_;refine cP a λ _ a=>?_;obtain ⟨i,f,a⟩:=bE a;refine A ?_;refine EX f (λ q=>⟨[(8,rD 43 q.1),(23,sD (Kp g)),(24,iD ((g.length:Nat):Int)),(25,iD q.2)],[(43,.arr 49 4 (E5 q.1))],49⟩) ((Wk.nil (t:=8) (q:=43) (sz:=4) 49 rfl rfl AV).trans FGs) ?_;rintro ⟨k,l⟩ _ EM Agd;rw[Y1.eq_1] at EM;obtain ⟨_,EM⟩ | ⟨_,EM⟩:=cK EM
 . cases kR EM;refine cP a λ _ a=>?_;exact zP a
 obtain ⟨_,EM,_⟩:=jK Abh EM;refine Fy EM Tl ?_;rintro ⟨_,_⟩ EM;obtain ⟨_,EM⟩ | ⟨_,EM⟩:=cK EM
 . refine Dd [0,0,0,0,0,0] ?_;cases kR EM;exact zP a
 obtain ⟨e,EM⟩:=gK EM;refine He e ?_;exact ALs (Agd _ _ (kI EM))
def H7(b:Sfm)(a:Int)(e:Int)(f:Int)(g:Ac):Option (Bool×Int×Int×Int×Ac):=
 some (decide (b.kind=a),a,e,f,g)
theorem Si{a b e f g r}(i:H7 a b e f g=some r):
   Rq 61 [.agg a.c,.ptr 1000000 0] [(1000000,.box [iD b,iD e,iD f,.p (.str g)])] [(1000000,.box [iD r.2.1,iD r.2.2.1,iD r.2.2.2.1,.p (.str r.2.2.2.2)])] (bD r.1):=by
 refine EA func61 Bg3 ?_;unfold H7 at i;exact zO i
def Y2(b:List Sfm):Int×Int×Int×Ac×Int->Option ((Int×Int×Int×Ac×Int)⊕((Int×Int×Int×Ac×Int)⊕(Int×Int×Int×Int×Ac)))
 | (e,f,g,i,a)=>cond (a<(b.length:Int)) ((CU b a).bind λ Hy=>(H7 Hy e f g i).bind λ (I4,Fj,P1,RW,GA)=>cond I4 (some (.inr (.inr (((a,Fj,P1,RW,GA):Int×Int×Int×Int×Ac))))) (some (.inl (Fj,P1,RW,GA,(i64.wrap (a+1)))))) (some (.inr (.inl (e,f,g,i,a))))
def Tm(g:List Sfm)(i:Int)(j:Int)(k:Int)(l:Ac):Option (Int×Int×Int×Int×Ac):=
 (C9 (Y2 g) (i,j,k,l,0)).bind (λ | .inl (b,J9,e,f,m)=>some ((-1),b,J9,e,f) | .inr (a)=>some a)
theorem Asm{e f g i j r}(a:Tm e f g i j=some r):
   Rq 52 [sD (Ko e),.fn 61 [.ptr 1000000 0]] [(1000000,.box [iD f,iD g,iD i,.p (.str j)])] [(1000000,.box [iD r.2.1,iD r.2.2.1,iD r.2.2.2.1,.p (.str r.2.2.2.2)])] (iD r.1):=by
 refine EA func52 Ap6 ?_;unfold Tm at a;obtain ⟨k,b,a⟩:=bE a;refine Agy b [0,1,7] [] (λ q=>[(8,iD q.2.2.2.2)]) (λ q=>[(1000000,.box [iD q.1,iD q.2.1,iD q.2.2.1,.p (.str q.2.2.2.1)])]) ?_;rintro ⟨m,n,o,s,l⟩ _ Dr L3;rw[Y2.eq_1] at Dr;obtain ⟨_,Dr⟩ | ⟨_,Dr⟩:=cK Dr
 . cases kR Dr;exact zO a
 obtain ⟨_,Dr,_⟩:=jK QF Dr;refine Fy Dr Si ?_;rintro ⟨_,_,_,_,_⟩ Dr;obtain ⟨_,Dr⟩ | ⟨_,Dr⟩:=cK Dr
 . exact ALs (L3 _ _ (kI Dr))
 cases kR Dr;exact zO a
attribute [-go_sem] asD
def Abe(n:Int):Option Ac:=if -9223372036854775808<=n/\n<=9223372036854775807 then some (TZ n) else none
theorem Axq{n r}(h:Abe n=some r):C4 prog 106 [iD n] [(1000000,(.Ew 3 J0))] λ h d=>h=[(1000000,(.Ew 3 J0))]/\d= .p (.str r):=by
 unfold Abe at h;split at h
 . rename_i c;cases h;exact Bk1 n c.1 c.2
 . cases h
def XA(e:List M6):Ai×Int->Option ((Ai×Int)⊕((Ai×Int)))
 | (a,b)=>cond (b<(e.length:Int)) ((CU e b).bind λ Hy=>cond (WG Hy) ((Abe (RO Hy)).bind λ RW=>cond (a.length+1<10000000) (some (.inl ((a++[RW]),(i64.wrap (b+1))))) none) (cond ((Afi Hy)=[]) (some (.inl (a,(i64.wrap (b+1))))) (cond (a.length+1<10000000) (some (.inl ((a++[(Afi Hy)]),(i64.wrap (b+1))))) none))) (some (.inr (a,b)))
def Un(a:List M6):Option Ac:=
 (C9 (XA a) ([],0)).bind (λ (v28,J9)=>(Uo v28 [32]).bind λ Mv=>cond (Mv.length+[10].length<10000000) (some (Mv++[10])) none)
theorem A1{p:Prop}(h:p:=by simp[Fe,D.ids,JI,AO.ids,get]):p:=h
theorem Ahn{e r}(a:Un e=some r):
   Rq 60 [sD (HY e)] [(1000000,(.Ew 3 J0))] [(1000000,(.Ew 3 J0))] (.p (.str r)):=by
 refine EA func60 Bg4 ?_;unfold Un at a;obtain ⟨m,k,a⟩:=bE a;refine A ?_;refine EX k (λ q=>⟨[(3,rD 31 q.1),(8,sD (HY e)),(9,iD ((e.length:Nat):Int)),(10,iD q.2)],[(31,.arr 9 1 (Eg q.1)),(1000000,(.Ew 3 J0))],36⟩) ((Wk.nil (t:=3) (q:=31) (sz:=1) 9 rfl rfl AV).trans FGs) ?_;rintro ⟨o,u⟩ _ Ip b;rw[XA.eq_1] at Ip;obtain ⟨_,Ip⟩ | ⟨_,Ip⟩:=cK Ip
 . cases kR Ip;obtain ⟨Lq,l,a⟩:=bE a;refine A ?_;refine GJ ((Ahp o [32] _ l).Ew (id:=1000000) AV rfl A1 (λ n r a=>by rw[a.1];rfl)) ?_;rintro s r ⟨n,⟨rfl,rfl⟩,rfl⟩;obtain ⟨f,a⟩:=gE a;have j:Lq.length+[10].length<=maxLen:=by have:=Bg f;(try dsimp only at this);unfold maxLen;omega
   have Cbb:=j;(try simp only[go_sem] at Cbb);exact zP a
 obtain ⟨_,Ip,_⟩:=jK Bb5 Ip;obtain ⟨_,Ip⟩ | ⟨_,Ip⟩:=cK Ip
 . obtain ⟨_,Ip⟩ | ⟨_,Ip⟩:=cK Ip
   . obtain ⟨g,Ip⟩:=gK Ip;refine He g ?_;exact ALs (b _ _ (kI Ip))
   exact ALs (b _ _ (kI Ip))
 refine Fy Ip Axq λ _ Ip=>?_;obtain ⟨i,Ip⟩:=gK Ip;refine He i ?_;exact ALs (b _ _ (kI Ip))
def Of(e:G9):Option (Ac×Bool):=
 (Un [(M6.s [111,114,100,101,114]),(M6.s e.text)]).bind λ f=>cond (e.kind=1) ((Oh f).bind λ (NG,x47,x48)=>cond (x48=0) (cond ((NG.length:Int)=1) ((CU NG 0).bind λ Va=>(JB Va.fs).bind λ (VO,x57)=>cond (x57=0) (some (f,(decide (VO.kind=e.kind)&&(decide (VO.a=e.a)&&(decide (VO.b=e.b)&&decide (VO.text=e.text)))))) (some (f,false))) (some ([],false))) (some ([],false))) (Option.bind MI λ g=>(Tm g e.kind e.a e.b e.text).bind λ (x6,x7,x8,x9,Ir)=>cond (x6<0) (some ([],false)) (Option.bind MI λ Lq=>(CU Lq x6).bind λ I8=>Option.bind MI λ OT=>(CU OT x6).bind λ I4=>cond (0<=(i64.wrap (1+I4.numbers))/\(i64.wrap (1+I4.numbers))<=3) ((Un ([(M6.s I8.word),(M6.i x8),(M6.i x9)].take (Int.toNat (i64.wrap (1+I4.numbers))))).bind λ RV=>(Oh RV).bind λ (OS,LG,KR)=>cond (KR=0) (cond ((OS.length:Int)=1) ((CU OS 0).bind λ Sd=>(JB Sd.fs).bind λ (KO,x42)=>cond (x42=0) (some (RV,(decide (KO.kind=x7)&&(decide (KO.a=x8)&&(decide (KO.b=x9)&&decide (KO.text=Ir)))))) (some (RV,false))) (some ([],false))) (some ([],false))) none))
theorem Akp{x r}(a:Of x=some r):
   Rq 28 [.agg x.c] [(1000000,(.Ew 3 J0))] [(1000000,(.Ew 3 J0))] (.Em [.p (.str r.1),bD r.2]):=by
 refine EA func28 Bgr ?_;unfold Of at a;refine Ec a Ahn λ B a=>?_;obtain ⟨y,a⟩ | ⟨y,a⟩:=cE a
 . obtain ⟨_,z,a⟩:=bE a;refine A ?_;refine GJ ((Og z).Ew (id:=1000000) AV rfl A1 (λ b r a=>by rw[a.1];rfl)) ?_;rintro g r ⟨b,⟨rfl,rfl⟩,rfl⟩;obtain ⟨⟨_,_,_,_,_⟩,l,a⟩:=bE a;refine A ?_;refine GJ ((Asm l).Ew (id:=1000001) AV rfl A1 (λ b r a=>by rw[a.1];rfl)) ?_;rintro g r ⟨b,⟨rfl,rfl⟩,rfl⟩;obtain ⟨_,a⟩ | ⟨_,a⟩:=cE a
   . refine Hx [10,60,70,80,90,100,110,2,20,30,40,50,121,130] ?_;obtain ⟨_,m,a⟩:=bE a;refine A ?_;refine Aw1 ((Og m).Ew (id:=1000000) AV rfl A1 (λ b r a=>by rw[a.1];rfl)) ?_;rintro g r ⟨b,⟨rfl,rfl⟩,rfl⟩;obtain ⟨_,a,_⟩:=jE QF a;obtain ⟨_,n,a⟩:=bE a;refine A ?_;refine GJ ((Og n).Ew (id:=1000000) AV rfl A1 (λ b r a=>by rw[a.1];rfl)) ?_;rintro g r ⟨b,⟨rfl,rfl⟩,rfl⟩;obtain ⟨I4,a,_⟩:=jE QF a;obtain ⟨k,a⟩:=gE a;have _:=Bg k;have _:(Int.toNat (i64.wrap (1+I4.numbers)))<=3:=AQ;have _:(((i64.wrap (1+I4.numbers))) - 0).toNat=(Int.toNat (i64.wrap (1+I4.numbers))):=AT;obtain ⟨RV,o,a⟩:=bE a;(try simp only[go_sem, *,Gn,F9]);have i:=Ahn o;rw[<-Gn] at i;simp only[RD,WB,Bid,Bic] at i;refine YA i ?_;obtain ⟨⟨OS,_,_⟩,q,a⟩:=bE a;(try simp only[go_sem, *,Gn,F9]);refine GJ ((Wg RV _ q).Ew (id:=1000000) AV rfl A1 (λ b r a=>by rw[a.1];rfl)) ?_;rintro g r ⟨b,⟨rfl,rfl⟩,rfl⟩;obtain ⟨e,a⟩ | ⟨e,a⟩:=cE a
     . cases a;(try simp only[go_sem, *,Gn,F9]);all_goals (try refine Dt ?_)
       all_goals (try simp only[go_sem,e,Gn,F9])
       all_goals (try (first | rfl | exact ⟨rfl,rfl⟩ | exact Pq _ _ | exact RC _ | (simp;done)))
     obtain ⟨j,a⟩ | ⟨j,a⟩:=cE a
     . cases a;(try simp only[go_sem, *,Gn,F9]);all_goals (try refine Dt ?_)
       all_goals (try simp only[go_sem,e,j,Gn,F9])
       all_goals (try (first | rfl | exact ⟨rfl,rfl⟩ | exact Pq _ _ | exact RC _ | (simp;done)))
     obtain ⟨_,a,s,_⟩:=iE a;have _:(Kp OS).getD 0 []=_:=Abh s;obtain ⟨⟨_,_⟩,t,a⟩:=bE a;(try simp only[go_sem, *,Gn,F9]);refine GJ ((Tl t).Ew (id:=1000000) AV rfl A1 (λ b r a=>by rw[a.1];rfl)) ?_;rintro g r ⟨b,⟨rfl,rfl⟩,rfl⟩;(try simp only[go_sem, *,Gn,F9]);refine Auj [0,0,0,0,0,0,0,0,0,0] ?_;obtain ⟨f,a⟩ | ⟨f,a⟩:=cE a
     . cases a;(try simp only[go_sem, *,Gn,F9]);all_goals (try refine Dt ?_)
       all_goals (try simp only[go_sem,f,Gn,F9])
       all_goals (try (first | rfl | exact ⟨rfl,rfl⟩ | exact Pq _ _ | exact RC _ | (simp;done)))
     cases a;(try simp only[go_sem, *,Gn,F9]);all_goals (try refine Dt ?_)
     all_goals (try simp only[go_sem,f,Gn,F9])
     all_goals (try (first | rfl | exact ⟨rfl,rfl⟩ | exact Pq _ _ | exact RC _ | (simp;done)))
   exact zP a
 obtain ⟨⟨NG,_,_⟩,u,a⟩:=bE a;refine A ?_;refine GJ ((Wg B _ u).Ew (id:=1000000) AV rfl A1 (λ b r a=>by rw[a.1];rfl)) ?_;rintro g r ⟨b,⟨rfl,rfl⟩,rfl⟩;refine cP a λ _ a=>?_;refine cP a λ _ a=>?_;obtain ⟨_,a,v,_⟩:=iE a;have _:(Kp NG).getD 0 []=_:=Abh v;obtain ⟨⟨_,_⟩,w,a⟩:=bE a;refine A ?_;refine GJ ((Tl w).Ew (id:=1000000) AV rfl A1 (λ b r a=>by rw[a.1];rfl)) ?_;rintro g r ⟨b,⟨rfl,rfl⟩,rfl⟩;refine Dd [0,0,0,0,0,0,0,0,0,0] ?_;refine cP a λ _ a=>?_;exact zP a
def Xu:Option (Bool):=
 (Tk [111,114,100,101,114,32,116,97,115,107,32,97,32,98,10,100,111,119,110,32,48,32,49,32,35,32,105,116,32,97,114,114,105,118,101,115,10,111,114,100,101,114,10]).bind λ (x1,x2,x3)=>cond (x3=0) (cond (x2=0) (cond ((x1.length:Int)=3) ((CU x1 0).bind λ e=>cond ((e.kind=1)&&(decide (e.a=0)&&(decide (e.b=0)&&decide (e.text=[116,97,115,107,32,97,32,98])))) ((CU x1 1).bind λ Lq=>cond ((Lq.kind=2)&&(decide (Lq.a=0)&&(decide (Lq.b=1)&&decide (Lq.text=[])))) ((CU x1 2).bind λ RY=>some (decide (RY.kind=1)&&(decide (RY.a=0)&&(decide (RY.b=0)&&decide (RY.text=[]))))) (some false)) (some false)) (some false)) (some false)) (some false)
theorem Asd{r}(a:Xu=some r):
   Rq 5 [] [] [] (bD r):=by
 refine EA func5 Bkq ?_;unfold Xu at a;refine Ec a Ad2 ?_;rintro ⟨f,_,_⟩ a;refine cP a λ _ a=>?_;refine cP a λ _ a=>?_;refine cP a λ _ a=>?_;obtain ⟨_,a,g,_⟩:=iE a;have _:(E5 f).getD 0 []=_:=MV g;refine cP a λ _ a=>?_;obtain ⟨_,a,b,_⟩:=iE a;have _:(E5 f).getD 1 []=_:=MV b;refine cP a λ _ a=>?_;obtain ⟨_,a,e,_⟩:=iE a;have _:(E5 f).getD 2 []=_:=MV e;exact zP a
def Rh(b:Int)(a:Int):Option (Int):=
 cond (a<=1) (some 0) (cond (¬a=0) (cond ((Int.tmod b a)<0) (some (i64.wrap ((Int.tmod b a)+a))) (some (Int.tmod b a))) none)
theorem Xs{b e r}(a:Rh b e=some r):
   Rq 33 [iD b,iD e] [] [] (iD r):=by
 refine EA func33 Aec ?_;unfold Rh at a;obtain ⟨_,a⟩ | ⟨_,a⟩:=cE a
 . obtain ⟨f,a⟩:=gE a;have _:=Bg f;refine cP a λ _ a=>?_;exact zP a
 exact zP a
def EF(b:Aa)(a:Int)(e:Int):Option (Int×Aa×Int):=
 cond (a<(b.length:Int)) ((CU b a).bind λ g=>(Rh g e).bind λ i=>some (i,b,(i64.wrap (a+1)))) ((Rh (Int.tmod (i64.wrap (a*7)) 11) e).bind λ f=>some (f,b,(i64.wrap (a+1))))
theorem Eh{b e f r}(a:EF b e f=some r):
   Rq 14 [.ptr 1000000 0,iD f] [(1000000,.box [sD (CT b),iD e])] [(1000000,.box [sD (CT r.2.1),iD r.2.2])] (iD r.1):=by
 refine EA func14 Aee ?_;unfold EF at a;refine Dd [0,0,0,0,0,0,0,0,0,0] ?_;obtain ⟨_,a⟩ | ⟨_,a⟩:=cE a
 . refine Ec a Xs λ _ a=>?_;exact zO a
 refine Dd [0,0,0,0,0,0,0,0,0,0,0] ?_;obtain ⟨_,a,_⟩:=jE Dl a;refine Ec a Xs λ _ a=>?_;exact zO a
def Qg(OT:Int):Aa×Int×Int×Ac->Option ((Aa×Int×Int×Ac)⊕((Aa×Int×Int×Ac)))
 | (e,f,b,a)=>(CU ([2,2,2,2,2,2,2,1,1,1,1,0]:Aa) OT).bind λ g=>(EF e f 9).bind λ (x53,x54,x55)=>cond (b<(i64.wrap (g+(i64.wrap (Int.tdiv x53 8))))) ((EF x54 x55 3).bind λ (x60,x61,x62)=>(EF x61 x62 8).bind λ (Ud,x65,x66)=>cond (Ud=0) ((EF x65 x66 7).bind λ (x78,x79,x80)=>(CU [[48],[49],[50],[49,55],[97],[45,49],[102,108,101,101,116]] x78).bind λ ZH=>cond ([32].length+ZH.length<10000000) (cond (a.length+([32]++ZH).length<10000000) (some (.inl (x79,x80,(i64.wrap (b+1)),(a++([32]++ZH))))) none) none) ((CU [[48],[49],[50],[49,55],[97],[45,49],[102,108,101,101,116]] x60).bind λ U9=>cond ([32].length+U9.length<10000000) (cond (a.length+([32]++U9).length<10000000) (some (.inl (x65,x66,(i64.wrap (b+1)),(a++([32]++U9))))) none) none)) (some (.inr (x54,x55,b,a)))
def Aci:Lp (Aa×Int×Ac×Int) (Aa×Int×Ac×Int)
 | (f,e,a,b)=>cond (0<b) ((EF f e 12).bind λ (OT,RX,I4)=>(EF RX I4 6).bind λ (P1,RW,GA)=>cond (0<P1) ((EF RW GA 11).bind λ (Sv,x98,x99)=>(CU [[111,114,100,101,114],[100,111,119,110],[117,112],[108,111,115,101,45,100,111,119,110],[108,111,115,101,45,117,112],[116,119,105,99,101,45,100,111,119,110],[116,119,105,99,101,45,117,112],[116,105,109,101,114],[100,114,105,118,101],[115,101,114,118,101],[102,97,117,108,116],[104,97,108,116]] Sv).bind λ Se=>cond (a.length+Se.length<10000000) ((C9 (Qg Sv) (x98,x99,0,(a++Se))).bind (λ (v164,Br5,v166,v167)=>cond (v167.length+[10].length<10000000) (some (.inl (v164,Br5,(v167++[10]),(i64.wrap (b - 1))))) none)) none) ((CU [[111,114,100,101,114],[100,111,119,110],[117,112],[108,111,115,101,45,100,111,119,110],[108,111,115,101,45,117,112],[116,119,105,99,101,45,100,111,119,110],[116,119,105,99,101,45,117,112],[116,105,109,101,114],[100,114,105,118,101],[115,101,114,118,101],[102,97,117,108,116],[104,97,108,116]] OT).bind λ OV=>cond (a.length+OV.length<10000000) ((C9 (Qg OT) (RW,GA,0,(a++OV))).bind (λ (v91,v92,v93,v94)=>cond (v94.length+[10].length<10000000) (some (.inl (v91,v92,(v94++[10]),(i64.wrap (b - 1))))) none)) none)) (some (.inr (f,e,a,b)))
def Ab8(a:Aa):Option Ac:=
 (EF a 0 8).bind λ (x1,x2,x3)=>(C9 Aci (x2,x3,[],x1)).bind (λ (v170,v171,Bno,v173)=>some Bno)
theorem Aww{a0 r}(f:Ab8 a0=some r):
   Rq 6 [sD (CT a0)] [] [] (.p (.str r)):=by
 refine EA func6 Bkp ?_;unfold Ab8 at f;refine Ec f Eh ?_;rintro ⟨_,_,_⟩ f;obtain ⟨b6,a9,f⟩:=bE f;refine Agy a9 [3,4,5,6] [15,16,17] (λ q=>[(7,.p (.str q.2.2.1)),(8,iD q.2.2.2)]) (λ q=>[(14,.box [sD (CT q.1),iD q.2.1])]) ?_;rintro ⟨v9,b8,H,b9⟩ _ EE Adl;rw[Aci.eq_1] at EE;obtain ⟨_,EE⟩ | ⟨_,EE⟩:=cK EE
 . cases kR EE;exact zP f
 refine Fy EE Eh ?_;rintro ⟨OT,_,_⟩ EE;refine Fy EE Eh ?_;rintro ⟨_,_,_⟩ EE;obtain ⟨_,EE⟩ | ⟨_,EE⟩:=cK EE
 . obtain ⟨OV,y,EE⟩:=bK EE;have _:0<=OT/\OT<12:=by have:=EK y;simp only[Br,Bz] at this;omega
   have T:(Eg [[111,114,100,101,114],[100,111,119,110],[117,112],[108,111,115,101,45,100,111,119,110],[108,111,115,101,45,117,112],[116,119,105,99,101,45,100,111,119,110],[116,119,105,99,101,45,117,112],[116,105,109,101,114],[100,114,105,118,101],[115,101,114,118,101],[102,97,117,108,116],[104,97,108,116]]).getD (Int.toNat OT) []=[(.str OV)]:=D1 _ y;have U:=T;(try simp only[FY,FX,FW,GZ,FV,GY,FZ,G1,No,FH,BN] at U);obtain ⟨I,EE⟩:=gK EE;have V:H.length+OV.length<=maxLen:=by have:=Bg I;(try dsimp only at this);unfold maxLen;omega
   have Cb6:=V;(try simp only[go_sem] at Cb6);obtain ⟨b7,b0,EE⟩:=bK EE;refine Agy b0 [3,4,5,6,8,9] [15,16,17] (λ q=>[(7,.p (.str q.2.2.2)),(10,iD q.2.2.1)]) (λ q=>[(14,.box [sD (CT q.1),iD q.2.1])]) ?_;rintro ⟨c0,c1,c2,a⟩ _ J4 Bs9;rw[Qg.eq_1] at J4;refine C5 [16] [0,0,0,0,0,0,2,0,0,0] ?_;obtain ⟨b1,z,J4⟩:=bK J4;have _:0<=OT/\OT<12:=by have:=EK z;simp only[Br,Bz] at this;omega
   have W:(CT [2,2,2,2,2,2,2,1,1,1,1,0]).getD (Int.toNat OT) []=[(.int .i64 b1)]:=D1 _ z;have Y:=W;(try simp only[FY,FX,FW,GZ,FV,GY,FZ,G1,No,FH,BN] at Y);refine Sc J4 Eh ?_;rintro ⟨_,_,_⟩ J4;obtain ⟨_,J4⟩ | ⟨_,J4⟩:=cK J4
   . cases kR J4;obtain ⟨K,EE⟩:=gK EE;have Z:a.length+[10].length<=maxLen:=by have:=Bg K;(try dsimp only at this);unfold maxLen;omega
     have Cb2:=Z;(try simp only[go_sem] at Cb2);exact ALs (Adl _ _ (kI EE))
   refine Fy J4 Eh ?_;rintro ⟨b,_,_⟩ J4;refine Fy J4 Eh ?_;rintro ⟨_,_,_⟩ J4;obtain ⟨_,J4⟩ | ⟨_,J4⟩:=cK J4
   . obtain ⟨U9,B,J4⟩:=bK J4;have _:0<=b/\b<7:=by have:=EK B;simp only[Br,Bz] at this;omega
     have a1:(Eg [[48],[49],[50],[49,55],[97],[45,49],[102,108,101,101,116]]).getD (Int.toNat b) []=[(.str U9)]:=D1 _ B;have a2:=a1;(try simp only[FY,FX,FW,GZ,FV,GY,FZ,G1,No,FH,BN] at a2);obtain ⟨N,J4⟩:=gK J4;have a3:[32].length+U9.length<=maxLen:=by have:=Bg N;(try dsimp only at this);unfold maxLen;omega
     have Cay:=a3;(try simp only[go_sem] at Cay);obtain ⟨Q,J4⟩:=gK J4;have a4:a.length+([32]++U9).length<=maxLen:=by have:=Bg Q;(try dsimp only at this);unfold maxLen;omega
     have Caw:=a4;(try simp only[go_sem] at Caw);exact ALs (Bs9 _ _ (kI J4))
   refine Fy J4 Eh ?_;rintro ⟨e,_,_⟩ J4;obtain ⟨ZH,E,J4⟩:=bK J4;have _:0<=e/\e<7:=by have:=EK E;simp only[Br,Bz] at this;omega
   have a5:(Eg [[48],[49],[50],[49,55],[97],[45,49],[102,108,101,101,116]]).getD (Int.toNat e) []=[(.str ZH)]:=D1 _ E;have a6:=a5;(try simp only[FY,FX,FW,GZ,FV,GY,FZ,G1,No,FH,BN] at a6);obtain ⟨R,J4⟩:=gK J4;have a7:[32].length+ZH.length<=maxLen:=by have:=Bg R;(try dsimp only at this);unfold maxLen;omega
   have Cau:=a7;(try simp only[go_sem] at Cau);obtain ⟨S,J4⟩:=gK J4;have a8:a.length+([32]++ZH).length<=maxLen:=by have:=Bg S;(try dsimp only at this);unfold maxLen;omega
   have Bpf:=a8;(try simp only[go_sem] at Bpf);exact ALs (Bs9 _ _ (kI J4))
 refine Fy EE Eh ?_;rintro ⟨Sv,_,_⟩ EE;obtain ⟨Se,Bth,EE⟩:=bK EE;have _:0<=Sv/\Sv<12:=by have:=EK Bth;simp only[Br,Bz] at this;omega
 have g:(Eg [[111,114,100,101,114],[100,111,119,110],[117,112],[108,111,115,101,45,100,111,119,110],[108,111,115,101,45,117,112],[116,119,105,99,101,45,100,111,119,110],[116,119,105,99,101,45,117,112],[116,105,109,101,114],[100,114,105,118,101],[115,101,114,118,101],[102,97,117,108,116],[104,97,108,116]]).getD (Int.toNat Sv) []=[(.str Se)]:=D1 _ Bth;have i:=g;try simp only[FY,FX,FW,GZ,FV,GY,FZ,G1,No,FH,BN] at i
 obtain ⟨Cbz,EE⟩:=gK EE;have j:H.length+Se.length<=maxLen:=by have:=Bg Cbz;(try dsimp only at this);unfold maxLen;omega
 have Bty:=j;try simp only[go_sem] at Bty
 obtain ⟨b2,Cao,EE⟩:=bK EE;refine Agy Cao [3,4,5,6,8,9] [15,16,17] (λ q=>[(7,.p (.str q.2.2.2)),(10,iD q.2.2.1)]) (λ q=>[(14,.box [sD (CT q.1),iD q.2.1])]) ?_;rintro ⟨b3,b4,b5,Bnu⟩ _ Hb Bm4;rw[Qg.eq_1] at Hb;refine C5 [16] [0,0,0,0,0,0,2,0,0,0] ?_;obtain ⟨Ame,Btf,Hb⟩:=bK Hb;have _:0<=Sv/\Sv<12:=by have:=EK Btf;simp only[Br,Bz] at this;omega
 have k:(CT [2,2,2,2,2,2,2,1,1,1,1,0]).getD (Int.toNat Sv) []=[(.int .i64 Ame)]:=D1 _ Btf;have l:=k;try simp only[FY,FX,FW,GZ,FV,GY,FZ,G1,No,FH,BN] at l
 refine Sc Hb Eh ?_;rintro ⟨_,_,_⟩ Hb;obtain ⟨_,Hb⟩ | ⟨_,Hb⟩:=cK Hb
 . cases kR Hb;obtain ⟨Bpr,EE⟩:=gK EE;have m:Bnu.length+[10].length<=maxLen:=by have:=Bg Bpr;(try dsimp only at this);unfold maxLen;omega
   have Bf6:=m;(try simp only[go_sem] at Bf6);exact ALs (Adl _ _ (kI EE))
 refine Fy Hb Eh ?_;rintro ⟨Afs,_,_⟩ Hb;refine Fy Hb Eh ?_;rintro ⟨_,_,_⟩ Hb;obtain ⟨_,Hb⟩ | ⟨_,Hb⟩:=cK Hb
 . obtain ⟨Ajq,Btd,Hb⟩:=bK Hb;have _:0<=Afs/\Afs<7:=by have:=EK Btd;simp only[Br,Bz] at this;omega
   have n:(Eg [[48],[49],[50],[49,55],[97],[45,49],[102,108,101,101,116]]).getD (Int.toNat Afs) []=[(.str Ajq)]:=D1 _ Btd;have o:=n;(try simp only[FY,FX,FW,GZ,FV,GY,FZ,G1,No,FH,BN] at o);obtain ⟨Bpq,Hb⟩:=gK Hb;have s:[32].length+Ajq.length<=maxLen:=by have:=Bg Bpq;(try dsimp only at this);unfold maxLen;omega
   have Bf5:=s;(try simp only[go_sem] at Bf5);obtain ⟨Cbo,Hb⟩:=gK Hb;have t:Bnu.length+([32]++Ajq).length<=maxLen:=by have:=Bg Cbo;(try dsimp only at this);unfold maxLen;omega
   have Btq:=t;(try simp only[go_sem] at Btq);exact ALs (Bm4 _ _ (kI Hb))
 refine Fy Hb Eh ?_;rintro ⟨Ari,_,_⟩ Hb;obtain ⟨Py,Btc,Hb⟩:=bK Hb;have _:0<=Ari/\Ari<7:=by have:=EK Btc;simp only[Br,Bz] at this;omega
 have u:(Eg [[48],[49],[50],[49,55],[97],[45,49],[102,108,101,101,116]]).getD (Int.toNat Ari) []=[(.str Py)]:=D1 _ Btc;have v:=u;try simp only[FY,FX,FW,GZ,FV,GY,FZ,G1,No,FH,BN] at v
 obtain ⟨Cbl,Hb⟩:=gK Hb;have w:[32].length+Py.length<=maxLen:=by have:=Bg Cbl;(try dsimp only at this);unfold maxLen;omega
 have Btn:=w;try simp only[go_sem] at Btn
 obtain ⟨Cbj,Hb⟩:=gK Hb;have x:Bnu.length+([32]++Py).length<=maxLen:=by have:=Bg Cbj;(try dsimp only at this);unfold maxLen;omega
 have Btl:=x;try simp only[go_sem] at Btl
 exact ALs (Bm4 _ _ (kI Hb))
theorem Au9:C4 prog 30 [.ptr 1000000 0] [(1000000,.box [.np,.cl []] 98)] λ h r=>h=[(1000000,.box [.np,.cl []] 98)]/\r=iD 0:=by
 refine Dw func30 rfl Apc (by simp[Tryz.f30]) ?_;simp only[go_sem];all_goals (try refine Dt ?_)
 all_goals (try simp only[go_sem])
 all_goals (try exact ⟨rfl,rfl⟩)
theorem Bbk(l):C4 prog 30 [.ptr 1000000 0] [(1000000,.box [.ptr 1000000 0,rD 1000001 l] 98),(1000001,.arr 5 1 (Gz l))] λ h r=>h=[(1000000,.box [.ptr 1000000 0,rD 1000001 l] 98),(1000001,.arr 5 1 (Gz l))]/\r=iD (l.length:Nat):=by
 refine Dw func30 rfl Apc (by simp[Tryz.f30]) ?_;simp only[go_sem,J8];all_goals (try refine DL ?_)
 all_goals (try simp only[go_sem,J8])
 all_goals (try exact ⟨rfl,rfl⟩)
def Qz(W:G9->Ac×Bool)(es:Au):Ac:=es.flatMap λ e=>(W e).1
def Ab3(W:G9->Ac×Bool)(es:Au):Ac×Int:=
 if 4000<es.length then ([],14) else if es.all (λ e=>(W e).2) then (if 6000<(Qz W es).length then ([],1) else (Qz W es,0)) else ([],20)
def fmtS(l:Au)(i:Nat)(a:Ac):St:=
 ⟨[(4,.ptr 4 0),(12,.p (.sl (E5 l))),(13,.p (.int .i64 (l.length:Nat))),(14,.p (.int .i64 (i:Nat)))],
   match i with
   | 0=>[(4,.box [.np,.cl []] 98),(1000000,(.Ew 3 J0))]
   | _+1=>[(4,.box [.ptr 4 0,.ref 10026 0 a.length a.length] 98),(10026,.arr 5 1 (Gz a)),(1000000,(.Ew 3 J0))],31⟩
theorem Bkl(l)(i)(x)(h:l[i]?=some x):(E5 l).getD i []=[.int .i64 x.kind,.int .i64 x.a,.int .i64 x.b,.str x.text]:=by
 simp[E5,List.getD,h]
theorem Asl(W:G9->Ac×Bool)(es)(K:∀e∈es,Of e=some (W e))(EH:∀e∈es,(W e).2=true->(W e).1≠[]/\(W e).1.length<=10000)(U:es.length<=10000000):
   C4 prog 11 [sD (E5 es)] [(1000000,(.Ew 3 J0))] λ h r=>h=[(1000000,(.Ew 3 J0))]/\r= .Em [.p (.str (Ab3 W es).1),iD (Ab3 W es).2]:=by
 refine Dw func11 rfl Bh4 (by simp[Tryz.f11]) ?_;simp only[go_sem,GR];cases t:decide (4000<(es.length:Int));rotate_left
 . have:4000<es.length:=by have:=Bg t;omega
   simp only[go_sem,t];all_goals (try refine Dt ?_)
   simp only[go_sem];simp[Ab3,this]
 have E:¬4000<es.length:=by have:=Bh t;omega
 simp only[go_sem,t];refine Dm (λ q:Nat×Ac=>fmtS es q.1 q.2)
   (λ q=>q.1<=es.length/\q.2=Qz W (es.take q.1)/\q.2.length<=10000*q.1/\(∀e∈es.take q.1,(W e).2=true)/\(q.1≠0->q.2≠[])) (λ q=>es.length - q.1) (0,[])
   ⟨BO _,by simp[Qz],AT,AT,AT⟩ (Wk.forget (by simp[ZF,fmtS])) ?_
 rintro ⟨i,a⟩ n ⟨Q,b,R6,Fx,o⟩ I;simp only at Q b R6 Fx o;rcases Nat.lt_or_ge i es.length with Dv | N
 . have hx:es[i]?=some es[i]:=by simp[Dv]
   have JP:es[i]∈es:=Ca Dv;have w:=Bkl es i _ hx;have s:es.take (i+1)=es.take i++[es[i]]:=by rw[Cp Dv]
   have z:=K _ JP;have B:=EH _ JP;generalize es[i]=x at*;have FC:(0:Int)<=(i:Int)/\(i:Int)<(es.length:Int):=AQ;have hid:decide ((i:Int)<(es.length:Int))=true:=Bi AQ;have S:=DG i AQ;have v:=Akp z;cases hb:(W x).2
   . have Nz:Ab3 W es=([],20):=by
       unfold Ab3;rw[if_neg E,if_neg];intro h;have:=BB.1 h x JP;rw[hb] at this;cases this
     rw[Nz];cases i with
     | zero=>
       have Ol:(0:Int)<(es.length:Int):=AQ;have Bp5:decide ((0:Int)<(es.length:Int))=true:=Bi Ol;simp only[fmtS];simp only[go_sem,GR,Bp5,Ol,Int.reduceToNat,w];refine Cq ((v)) ?_;simp only[go_sem,hb];all_goals (try refine DL ?_)
       all_goals (try simp only[go_sem])
       all_goals (try exact ⟨rfl,rfl⟩)
     | succ i=>
       simp only[fmtS];simp only[go_sem,GR,hid,FC,Be,w];refine Cq ((v)) ?_;simp only[go_sem,hb];all_goals (try refine DL ?_)
       all_goals (try simp only[go_sem])
       all_goals (try exact ⟨rfl,rfl⟩)
   . obtain ⟨j,R⟩:=B hb;have YE:Qz W (es.take (i+1))=a++(W x).1:=by rw[s,b];simp[Qz]
     have Bme:∀e∈es.take (i+1),(W e).2=true:=by
       intro e H;rw[s] at H;rcases BD.1 H with h | h
       . exact Fx e h
       . rw[BG.1 h];exact hb
     cases i with
     | zero=>
       have k:a=[]:=by rw[b];simp[Qz]
       subst k;have Ol:(0:Int)<(es.length:Int):=AQ;have Bp5:decide ((0:Int)<(es.length:Int))=true:=Bi Ol;have Bk6:i64.wrap 1=1:=rfl;simp only[fmtS];simp only[go_sem,GR,Bp5,Ol,Int.reduceToNat,w];refine Cq ((v)) ?_;simp only[go_sem,hb];refine GJ ((Aly (W x).1 j AQ).Ew (id:=1000001) AV rfl A1 (λ f r g=>by rw[g.1];rfl)) ?_;rintro l r ⟨f,⟨rfl,rfl⟩,rfl⟩;simp only[go_sem,Bk6];refine I (0+1,(W x).1) _ ⟨Dv,by rw[YE];simp,by simp only;omega,Bme,λ _=>j⟩ A0 (Wk.forget (by simp[ZF,fmtS,Bk6]))
     | succ i=>
       simp only[fmtS];simp only[go_sem,GR,hid,FC,Be,w];refine Cq ((v)) ?_;simp only[go_sem,hb];refine GJ ((Aqv a (W x).1 AQ).Ew (id:=1000002) AV rfl A1 (λ f r g=>by rw[g.1];rfl)) ?_;rintro l r ⟨f,⟨rfl,rfl⟩,rfl⟩;simp only[go_sem,S];refine I (i+1+1,a++(W x).1) _ ⟨Dv,YE.symm,by simp only[Bw];omega,Bme,λ _=>by simp[j]⟩ A0 (Wk.forget (by simp[ZF,fmtS]))
 . have m:i=es.length:=AQ;have hid:decide ((i:Int)<(es.length:Int))=false:=Bj AQ;rw[m,BE] at b Fx;have Qs:Ab3 W es=if 6000<a.length then ([],1) else (a,0):=by
     unfold Ab3;rw[if_neg E,if_pos (BB.2 Fx),b]
   rw[Qs];clear Qs;cases i with
   | zero=>
     have Sx:es=[]:=BZ m.symm;subst Sx;have k:a=[]:=by rw[b];simp[Qz]
     subst k;simp only[fmtS,Bz];simp only[go_sem,GR];refine GJ ((Au9).Ew (id:=1000001) AV rfl A1 (λ f r g=>by rw[g.1];rfl)) ?_;rintro l r ⟨f,⟨rfl,rfl⟩,rfl⟩;simp only[go_sem];refine GJ ((Aqy (T:=98) AV).Ew (id:=1000001) AV rfl A1 (λ f r g=>by rw[g.1];rfl)) ?_;rintro l r ⟨f,⟨rfl,rfl⟩,rfl⟩;simp only[go_sem];all_goals (try refine DL ?_)
     all_goals (try simp only[go_sem])
     all_goals (try exact ⟨rfl,rfl⟩)
   | succ i=>
     have Bzk:=o AQ;simp only[fmtS];simp only[go_sem,GR,hid];refine GJ ((Bbk a).Ew (id:=1000002) AV rfl A1 (λ f r g=>by rw[g.1];rfl)) ?_;rintro l r ⟨f,⟨rfl,rfl⟩,rfl⟩;cases u:decide (6000<(a.length:Int))
     . have y:¬6000<a.length:=by have:=Bh u;omega
       rw[if_neg y];simp only[go_sem,u];refine GJ ((Au7 Bzk).Ew (id:=1000002) AV rfl (by simp[Fe,D.ids,JI,AO.ids,get,base]) (λ f r g=>by rw[g.1];rfl)) ?_;rintro l r ⟨f,⟨rfl,rfl⟩,rfl⟩;simp only[go_sem];all_goals (try refine DL ?_)
       all_goals (try simp only[go_sem])
       all_goals (try exact ⟨rfl,rfl⟩)
     . have y:6000<a.length:=by have:=Bg u;omega
       rw[if_pos y];simp only[go_sem,u];all_goals (try refine DL ?_)
       all_goals (try simp only[go_sem])
       all_goals (try exact ⟨rfl,rfl⟩)
def Y3:Ac:=[111,114,100,101,114]
def JE:List Sfm:=[⟨[100,111,119,110],2,2⟩,⟨[117,112],3,2⟩,⟨[108,111,115,101,45,100,111,119,110],4,2⟩,⟨[108,111,115,101,45,117,112],5,2⟩,⟨[116,119,105,99,101,45,100,111,119,110],6,2⟩,⟨[116,119,105,99,101,45,117,112],7,2⟩,⟨[116,105,109,101,114],8,1⟩,⟨[100,114,105,118,101],9,1⟩,⟨[115,101,114,118,101],10,1⟩,⟨[102,97,117,108,116],11,1⟩]
def kw(w:Ac):Int×Int:=match JE.find? (λ f=>decide (w=f.word)) with
 | some f=>(f.kind,f.numbers)
 | none=>(0,0)
def nmB(x:Ac):Bool:=(GP x).2&&decide (0<=(GP x).1)
def ev0:G9:=⟨0,0,0,[]⟩
def evN(k n:Int)(rest:Ai):G9×Int:=
 if k=0 then (ev0,4) else if (rest.length:Int)=n then (match rest with
   | [x]=>if nmB x then (⟨k,(GP x).1,0,[]⟩,0) else (ev0,7)
   | [x,y]=>if nmB x&&nmB y then (⟨k,(GP x).1,(GP y).1,[]⟩,0) else (ev0,7)
   | _=>(ev0,7)) else (ev0,5)
def evV:Ai->G9×Int
 | []=>(ev0,4)
 | w::rest=>if w=Y3 then (if 3<rest.length then (ev0,5) else (⟨1,0,0,Et rest⟩,0)) else evN (kw w).1 (kw w).2 rest
theorem Ae9(w)(rest):evV (w::rest)=if w=Y3 then (if 3<rest.length then (ev0,5) else (⟨1,0,0,Et rest⟩,0)) else evN (kw w).1 (kw w).2 rest:=rfl
theorem Av9{α:Type}{l:List α}(h:l.length=2):∃x y,l=[x,y]:=by
 match l,h with
 | [x,y],_=>exact ⟨x,y,rfl⟩
theorem Aob(w):kw w=(0,0)∨((kw w).2=1∨(kw w).2=2)/\2<=(kw w).1/\(kw w).1<=11:=by
 unfold kw;cases h:JE.find? (λ f=>decide (w=f.word)) with
 | none=>exact .inl rfl
 | some f=>
   right;have a:=List.mem_of_find?_eq_some h;simp only[JE,BX,BN,or_false] at a;rcases a with rfl | rfl | rfl | rfl | rfl | rfl | rfl | rfl | rfl | rfl<;>simp
theorem Ach(w):Qf w=some (kw w):=by
 unfold Qf kw JE;simp only[List.find?];generalize decide (w=[100,111,119,110])=b1;generalize decide (w=[117,112])=b2;generalize decide (w=[108,111,115,101,45,100,111,119,110])=b3;generalize decide (w=[108,111,115,101,45,117,112])=b4;generalize decide (w=[116,119,105,99,101,45,100,111,119,110])=b5;generalize decide (w=[116,119,105,99,101,45,117,112])=b6;generalize decide (w=[116,105,109,101,114])=b7;generalize decide (w=[100,114,105,118,101])=b8;generalize decide (w=[115,101,114,118,101])=b9;generalize decide (w=[102,97,117,108,116])=b10;cases b1;rotate_left; · rfl
 cases b2;rotate_left; · rfl
 cases b3;rotate_left; · rfl
 cases b4;rotate_left; · rfl
 cases b5;rotate_left; · rfl
 cases b6;rotate_left; · rfl
 cases b7;rotate_left; · rfl
 cases b8;rotate_left; · rfl
 cases b9;rotate_left; · rfl
 cases b10;rotate_left; · rfl
 rfl
theorem Abo{n}(h:0<=n/\n<=100):i64.wrap (1+n)=1+n:=C2 AQ AQ
theorem Bdd(x):nmB x=true↔(GP x).2=true/\0<=(GP x).1:=by simp[nmB]
theorem Asf(a)(EH:a≠[])(z:a.length<=10000)(H:PX a<=1000000):DT (Qi a) (λ r=>r=evV a):=by
 obtain ⟨w,rest,rfl⟩:∃w rest,a=w::rest:=by
   cases a with
   | nil=>exact (EH rfl).elim
   | cons w r=>exact ⟨w,r,rfl⟩
 simp only[Br,PX] at z H;unfold Qi;have t:CU (w::rest) 0=some w:=rfl;rw[t,Bd];rw[Ae9];refine tD (λ i=>?_) λ i=>?_
 . rw[if_pos (show w=Y3 from i)];refine tD (λ g=>tS ?_) λ g=>?_
   . rw[Br] at g;rw[if_pos (show 3<rest.length by omega)];rfl
   . rw[Br] at g;refine tG (by rw[Br];omega) λ _=>?_;have s:((w::rest).take (w::rest).length).drop 1=rest:=by rw[BE];rfl
     rw[s];unfold Xx;rw[if_pos ⟨AQ,AQ⟩,Bd];exact tS (by rw[if_neg (show ¬3<rest.length by omega)])
 . rw[Ach,Bd,if_neg (show ¬w=Y3 from i)];have m:=Aob w;generalize kw w=kn at*;obtain ⟨k,n⟩:=kn;dsimp only at m ⊢;unfold evN;refine tD (λ Km=>tS (by rw[if_pos Km];rfl)) λ Km=>?_;rw[if_neg Km];have B:n=1∨n=2:=by
     rcases m with h | h
     . simp only[Ci] at h;exact absurd h.1 Km
     . exact h.1
   rw[Abo AQ];refine tD (λ hlen=>?_) λ hlen=>tS (by rw[Br] at hlen;rw[if_neg (show ¬(rest.length:Int)=n by omega)];rfl);rw[Br] at hlen;rw[if_pos (show (rest.length:Int)=n by omega)];rcases B with rfl | rfl
   . obtain ⟨x,rfl⟩:∃x,rest=[x]:=CG.1 AQ;have b:nmB x=((GP x).2&&decide (0<=(GP x).1)):=rfl;dsimp only;rw[b,Hl,LZ.eq_1,show decide ((1:Int)<=1)=true from rfl,Bm,show CU [w,x] 1=some x from rfl,Bd];unfold Qk;rw[Bd];generalize GP x=p;obtain ⟨v,j⟩:=p;cases j
     . exact tS rfl
     . by_cases e:v<0
       . have:¬0<=v:=AQ;simp only[e,Cy,Bm,Bd,GU];exact tS (by simp[this];rfl)
       . have:0<=v:=AQ;simp only[e,Cy,decide_false,Bm,Bl,Bd,GU];rw[Hl,LZ.eq_1,show decide (i64.wrap (1+1)<=1)=false from rfl,Bl];exact tS (by simp[this])
   . obtain ⟨x,y,rfl⟩:∃x y,rest=[x,y]:=Av9 AQ;have b:nmB x=((GP x).2&&decide (0<=(GP x).1)):=rfl;have Boy:nmB y=((GP y).2&&decide (0<=(GP y).1)):=rfl;dsimp only;rw[b,Boy,Hl,LZ.eq_1,show decide ((1:Int)<=2)=true from rfl,Bm,show CU [w,x,y] 1=some x from rfl,Bd];unfold Qk;rw[Bd];generalize GP x=p;generalize E:GP y=q;obtain ⟨v,j⟩:=p;obtain ⟨u,l⟩:=q;cases j
     . exact tS rfl
     . by_cases e:v<0
       . have:¬0<=v:=AQ;simp only[e,Cy,Bm,Bd,GU];exact tS (by simp[this];rfl)
       . have:0<=v:=AQ;simp only[e,Cy,decide_false,Bm,Bl,Bd,GU];rw[Hl,LZ.eq_1,show decide (i64.wrap (1+1)<=2)=true from rfl,Bm,show CU [w,x,y] (i64.wrap (1+1))=some y from rfl,Bd];unfold Qk;rw[Bd,E];cases l
         . exact tS (by simp;rfl)
         . by_cases o:u<0
           . have:¬0<=u:=AQ;simp only[o,Cy,Bm,Bd,GU];exact tS (by simp[this];rfl)
           . have f:0<=u:=AQ;simp only[o,Cy,decide_false,Bm,Bl,Bd,GU,show decide (i64.wrap (1+1)=1)=false from rfl];rw[Hl,LZ.eq_1,show decide (i64.wrap (i64.wrap (1+1)+1)<=2)=false from rfl,Bl];exact tS (by simp[this,f])
theorem Abf:∀f∈JE,(f.numbers=1∨f.numbers=2)/\2<=f.kind/\f.kind<=11:=AV
theorem Ad4:MI=some JE:=rfl
theorem Bf3(g)(w)(rest)(y:g.length<=1000):DT (GG g (w::rest)) (λ r=>r.2=w::rest/\((r.1=-1/\g.find? (λ f=>decide (w=f.word))=none)∨(0<=r.1/\∃f,g[r.1.toNat]?=some f/\g.find? (λ f=>decide (w=f.word))=some f))):=by
 unfold GG;refine tB (P:=λ e=>match e with
   | .inl s=>s.1=w::rest/\g.find? (λ f=>decide (w=f.word))=none
   | .inr r=>r.2=w::rest/\(0<=r.1/\∃f,g[r.1.toNat]?=some f/\g.find? (λ f=>decide (w=f.word))=some f)) (tL (λ s=>s.1=w::rest/\∃i:Nat,s.2=(i:Int)/\i<=g.length/\g.find? (λ f=>decide (w=f.word))=(g.drop i).find? (λ f=>decide (w=f.word))) (λ s=>g.length - s.2.toNat) ⟨rfl,0,rfl,AQ,AT⟩ ?_) ?_
 . rintro ⟨z,j⟩ ⟨o,i,h2,q,k⟩;dsimp only at o h2 q k;subst o h2;rw[IU.eq_1];refine tD (λ Dv=>tI AQ λ f p _=>?_) λ u=>tS ?_
   . have hx:g[i]?=some f:=by rw[Be] at p;exact p
     have t:g.drop i=f::g.drop (i+1):=by
       obtain ⟨v,x⟩:=Bn.1 hx;rw[List.drop_eq_getElem_cons v,x]
     rw[t,List.find?_cons] at k;unfold IZ;rw[show CU (w::rest) 0=some w from rfl,Bd,Bd];by_cases l:w=f.word
     . have m:decide (f.word=w)=true:=Bi l.symm;have n:decide (w=f.word)=true:=Bi l;rw[n] at k;simp only[m,Bm];exact tS ⟨rfl,AS,f,by dsimp only;rw[Be];exact hx,k⟩
     . have m:decide (f.word=w)=false:=Bj (λ h=>l h.symm);have n:decide (w=f.word)=false:=Bj l;rw[n] at k;simp only[m,Bl];refine tS ⟨⟨rfl,i+1,?_,AQ,k⟩,?_⟩
       . dsimp only;rw[C2 AQ AQ];omega
       . dsimp only;rw[C2 AQ AQ];omega
   . refine ⟨rfl,?_⟩;rw[k,Cu AQ];rfl
 . rintro (⟨a,b⟩ | ⟨a,b⟩) h
   . exact tS ⟨h.1,.inl ⟨rfl,h.2⟩⟩
   . exact tS ⟨h.1,.inr h.2⟩
theorem Z6(b)(EH:b≠[])(Q:b.length<=10000)(T:PX b<=1000000):DT (JB b) (λ r=>r=evV b):=by
 obtain ⟨w,rest,rfl⟩:∃w rest,b=w::rest:=by
   cases b with
   | nil=>exact (EH rfl).elim
   | cons w r=>exact ⟨w,r,rfl⟩
 simp only[Br,PX] at Q T;unfold JB;have N:CU (w::rest) 0=some w:=rfl;have j:((w::rest).take (w::rest).length).drop 1=rest:=by rw[BE];rfl
 rw[N,Bd];rw[Ae9];refine tD (λ z=>?_) λ z=>?_
 . rw[if_pos (show w=Y3 from z)];refine tD (λ m=>tS ?_) λ m=>?_
   . rw[Br] at m;rw[if_pos (show 3<rest.length by omega)];rfl
   . rw[Br] at m;refine tG (by rw[Br];omega) λ _=>?_;rw[j];unfold Uo;rw[if_pos ⟨rfl,AQ,AQ⟩,Bd];exact tS (by rw[if_neg (show ¬3<rest.length by omega)])
 . rw[Ad4,Bd,if_neg (show ¬w=Y3 from z)];refine tB (Bf3 JE w rest AV) ?_;rintro ⟨i,W⟩ ⟨H,h2⟩;dsimp only at H h2;subst H;have s:=Aob w;have a:kw w=match JE.find? (λ f=>decide (w=f.word)) with
     | some f=>(f.kind,f.numbers)
     | none=>(0,0):=rfl
   rcases h2 with ⟨h2,l⟩ | ⟨h2,f,l,m⟩
   . rw[l] at a;refine tD (λ _=>tS ?_) λ h=>AQ;rw[a];rfl
   . rw[m] at a;refine tD (λ h=>AQ) λ _=>?_;rw[Bd];have V:i.toNat<JE.length:=(Bn.1 l).1;have HP:0<=i/\i<(JE.length:Int):=⟨h2,by have:=Int.toNat_of_nonneg h2;omega⟩;refine tI HP λ g I _=>?_;rw[l] at I;cases I;clear s;have s:=Abf f (Bt l);rw[a];dsimp only;obtain ⟨U,k,n⟩:=f;dsimp only at s ⊢;clear a l m;unfold evN;have Km:¬k=0:=AQ;have R:n=1∨n=2:=s.1;rw[if_neg Km,Abo AQ];refine tD (λ hlen=>?_) λ hlen=>tS (by rw[Br] at hlen;rw[if_neg (show ¬(rest.length:Int)=n by omega)];rfl);rw[Br] at hlen;rw[if_pos (show (rest.length:Int)=n by omega)];refine tG (by rw[Br];omega) λ _=>?_;rcases R with rfl | rfl
     . obtain ⟨x,rfl⟩:∃x,rest=[x]:=CG.1 AQ;have e:nmB x=((GP x).2&&decide (0<=(GP x).1)):=rfl;dsimp only;rw[e,Hl,Kj.eq_1,j,show decide ((0:Int)<(([x].length:Nat):Int))=true from rfl,Bm,show CU [x] 0=some x from rfl,Bd];unfold Qn;rw[Bd];generalize GP x=p;obtain ⟨v,B⟩:=p;cases B
       . exact tS rfl
       . by_cases o:v<0
         . have:¬0<=v:=AQ;simp only[o,Cy,Bm,Bd,GU];exact tS (by simp[this];rfl)
         . have:0<=v:=AQ;simp only[o,Cy,decide_false,Bm,Bl];rw[show Adn 2 (List.replicate 2 (0:Int)) 0=some 0 from rfl,Bd,Bd];simp only[GU];rw[Hl,Kj.eq_1,j,show decide (i64.wrap (0+1)<(([x].length:Nat):Int))=false from rfl,Bl,Bd];simp only[GU];exact ⟨_,rfl,by simp[this]⟩
     . obtain ⟨x,y,rfl⟩:∃x y,rest=[x,y]:=Av9 AQ;have e:nmB x=((GP x).2&&decide (0<=(GP x).1)):=rfl;have Boy:nmB y=((GP y).2&&decide (0<=(GP y).1)):=rfl;dsimp only;rw[e,Boy,Hl,Kj.eq_1,j,show decide ((0:Int)<(([x,y].length:Nat):Int))=true from rfl,Bm,show CU [x,y] 0=some x from rfl,Bd];unfold Qn;rw[Bd];generalize GP x=p;generalize S:GP y=q;obtain ⟨v,B⟩:=p;obtain ⟨u,E⟩:=q;cases B
       . exact tS rfl
       . by_cases o:v<0
         . have:¬0<=v:=AQ;simp only[o,Cy,Bm,Bd,GU];exact tS (by simp[this];rfl)
         . have:0<=v:=AQ;simp only[o,Cy,decide_false,Bm,Bl];rw[show Adn 2 (List.replicate 2 (0:Int)) 0=some 0 from rfl,Bd,Bd];simp only[GU];rw[Hl,Kj.eq_1,j,show decide (i64.wrap (0+1)<(([x,y].length:Nat):Int))=true from rfl,Bm,show CU [x,y] (i64.wrap (0+1))=some y from rfl,Bd];unfold Qn;rw[Bd,S];cases E
           . exact tS (by simp;rfl)
           . by_cases K:u<0
             . have:¬0<=u:=AQ;simp only[K,Cy,Bm,Bd,GU];exact tS (by simp[this];rfl)
             . have t:0<=u:=AQ;simp only[K,Cy,decide_false,Bm,Bl];rw[show Adn 2 ((List.replicate 2 (0:Int)).set (Int.toNat 0) v) (i64.wrap (0+1))=some 0 from rfl,Bd,Bd];simp only[GU];rw[Hl,Kj.eq_1,j,show decide (i64.wrap (i64.wrap (0+1)+1)<(([x,y].length:Nat):Int))=false from rfl,Bl,Bd];simp only[GU];exact ⟨_,rfl,by simp[this,t]⟩
theorem Ady:∀(t:Ac) (c:Option Ac) (acc:Ai),(Il t c acc).2=0->(∀s∈acc,Oe s=true)->(∀s,c=some s->Oe s=true)->∀s∈(Il t c acc).1,Oe s=true
 | [],none,acc,_,h2,_=>by simpa [Il] using h2
 | [],some cur,acc,_,h2,f=>by
   intro s a;simp only[Il,BD,BG] at a;rcases a with a | rfl
   . exact h2 s a
   . exact f s rfl
 | b::r,c,acc,e,h2,f=>by
   have k:∀s∈acc++c.toList,Oe s=true:=by
     intro s a;rcases BD.1 a with a | a
     . exact h2 s a
     . exact f s (by simpa using a)
   intro s a;rw[Il] at e a;split at e
   . rename_i h;rw[if_pos h] at a;exact k s a
   . rename_i h;rw[if_neg h] at a;split at e
     . rename_i g;rw[if_pos g] at a;exact Ady r none _ e k (λ _ h=>by cases h) s a
     . rename_i g;rw[if_neg g] at a;split at e
       . rename_i i;rw[if_pos i] at a;split at e
         . cases e
         . rename_i l;rw[if_neg l] at a;refine Ady r _ acc e h2 ?_ s a;intro p j;obtain rfl:=Bf j;rw[YZ];cases c with
           | none=>simp only[Option.getD_none,List.nil_append];exact ⟨AT,AT,by simpa using i⟩
           | some cur=>
             simp only[BP] at l ⊢;obtain ⟨n,o,m⟩:=YZ.1 (f cur rfl);refine ⟨AT,by simp only[Bw,CM];omega,λ x hx=>?_⟩;rcases BD.1 hx with hx | hx
             . exact m x hx
             . rw[BG.1 hx];exact i
       . cases e
theorem Acf:∀(S:Ai) (k:Nat) (acc:AB),(∀x∈acc,∀w∈x.fs,Oe w=true)->∀x∈(GF S k acc).1,∀w∈x.fs,Oe w=true
 | [],k,acc,h=>by simpa [GF] using h
 | t::r,k,acc,h=>by
   intro x hx;rw[GF] at hx;split at hx
   . rename_i b;refine Acf r (k+1) _ ?_ x hx;intro y a;split at a
     . rcases BD.1 a with a | a
       . exact h y a
       . rw[BG.1 a];exact Ady t none [] b AT (λ _ h=>by cases h)
     . exact h y a
   . cases hx
theorem Aox(s):∀x∈(D9 s).1,∀w∈x.fs,Oe w=true:=by
 unfold D9;split
 . intro x hx;cases hx
 . exact Acf _ _ _ AT
theorem RB(s):(D9 s).1.length<=6001/\∀x∈(D9 s).1,x.fs.length<=6000:=by
 unfold D9;split
 . simp
 . rename_i h;have e:=LV 10 s;have h2:s.count 10<=s.length:=List.count_le_length;have a:=Te 6000 (D4 10 s) 1 [] (λ t b=>by have:=Re 10 s t b;omega) AT;exact ⟨by have:=a.1;simp at this;omega,a.2⟩
theorem Ake:∀(r:Ai),(∀s∈r,Oe s=true)->PX r<=13*r.length
 | [],_=>by simp[PX]
 | s::r,h=>by
   have a:=Ake r (λ x hx=>h x (by simp[hx]));have h2:=(YZ.1 (h s AT)).2.1;simp only[PX,Br];omega
def prL:AB->Au->Au×Int×Int
 | [],acc=>if 4000<acc.length then ([],0,14) else (acc,0,0)
 | x::r,acc=>if (evV x.fs).2=0 then prL r (acc++[(evV x.fs).1]) else ([],x.num,(evV x.fs).2)
def prV(s:Ac):Au×Int×Int:=if (D9 s).2.2=0 then prL (D9 s).1 [] else ([],(D9 s).2.1,(D9 s).2.2)
def Ux(F:Ai->Option (G9×Int))(e:AB):Au×Int->Option ((Au×Int)⊕((Au×Int)⊕(Au×Int×Int)))
 | (b,a)=>cond (decide (a<((e.length:Nat):Int))) (Option.bind (CU e a) λ Hy=>Option.bind (F Hy.fs) λ (I4,Fj)=>cond (decide (Fj=0)) (cond (decide (b.length+1<10000000)) (some (Sum.inl ((b++[I4]),(i64.wrap (a+1))))) none) (some (Sum.inr (.inr ((([],Hy.num,Fj):Au×Int×Int)))))) (some (Sum.inr (.inl (b,a))))
theorem Anz(x1):Y1 x1=Ux JB x1:=rfl
theorem Ani(x1):YX x1=Ux Qi x1:=rfl
theorem Adv(F:Ai->Option (G9×Int))(ls)(z:ls.length<=100000)(o:∀x∈ls,F x.fs=some (evV x.fs)):
   DT (Option.bind (C9 (Ux F ls) ([],0)) (λ | .inl (RZ,YP)=>cond (decide (4000<((RZ.length:Nat):Int))) (some (([],0,14):Au×Int×Int)) (some (RZ,0,0)) | .inr (k)=>some k)) (λ r=>r=prL ls []):=by
 refine tB (P:=λ e=>match e with | .inl s=>prL ls []=(if 4000<s.1.length then ([],0,14) else (s.1,0,0)) | .inr r=>r=prL ls []) (tL (λ s=>∃i:Nat,s.2=(i:Int)/\i<=ls.length/\s.1.length=i/\prL ls []=prL (ls.drop i) s.1) (λ s=>ls.length - s.2.toNat) ⟨0,rfl,AQ,rfl,AT⟩ ?_) ?_
 . rintro ⟨acc,j⟩ ⟨i,l,h2,m,f⟩;dsimp only at l h2 m f;subst l;rw[Ux.eq_1];refine tD (λ Dv=>tI AQ λ x hx u=>?_) λ t=>tS ?_
   . have Kl:ls[i]?=some x:=by rw[Be] at hx;exact hx
     have q:ls.drop i=x::ls.drop (i+1):=by
       obtain ⟨v,w⟩:=Bn.1 Kl;rw[List.drop_eq_getElem_cons v,w]
     rw[q,prL] at f;rw[o x u,Bd];generalize evV x.fs=p at*;obtain ⟨e,y⟩:=p;dsimp only at f ⊢;refine tD (λ g=>tG AQ λ _=>tS ⟨⟨i+1,?_,AQ,?_,?_⟩,?_⟩) λ g=>tS ?_
     . dsimp only;rw[C2 AQ AQ];omega
     . dsimp only;rw[List.length_append,List.length_singleton];omega
     . rw[if_pos g] at f;exact f
     . dsimp only;rw[C2 AQ AQ];omega
     . rw[if_neg g] at f;exact f.symm
   . rw[Cu AQ,prL] at f;exact f
 . rintro (⟨a,b⟩ | r) h
   . dsimp only at h ⊢;rw[h];refine tD (λ n=>tS (by rw[if_pos (AQ)])) λ n=>tS (by rw[if_neg (AQ)])
   . exact tS h
theorem Na{α:Type}{x}{v:α}(h:DT x (λ r=>r=v)):x=some v:=by
 obtain ⟨r,a,h2⟩:=h;rw[a,h2]
theorem Abd(s):∀x∈(D9 s).1,x.fs≠[]/\x.fs.length<=6000/\PX x.fs<=100000/\∀w∈x.fs,Oe w=true:=by
 intro x hx;have b:=Aib s x hx;have h2:=(RB s).2 x hx;have a:=Aox s x hx;have e:=Ake x.fs a;exact ⟨b,h2,AQ,a⟩
theorem Ad3(s):Tk s=some (prV s):=by
 have g:=RB s;refine Na ?_;unfold Tk Oh prV;rw[Bd];generalize f:D9 s=p at*;obtain ⟨i,at_,e⟩:=p;dsimp only at g ⊢;refine tD (λ a=>?_) λ a=>tS (by rw[if_neg a]);rw[if_pos a,Anz];refine Adv _ i AQ λ x hx=>?_;obtain ⟨b,h2,j,_⟩:=Abd s x (by rw[f];exact hx);exact Na (Z6 _ b AQ AQ)
theorem Ack(s):Tf s=some (prV s):=by
 have g:=RB s;refine Na ?_;unfold Tf Acs prV;rw[Bd];generalize f:D9 s=p at*;obtain ⟨i,at_,e⟩:=p;dsimp only at g ⊢;refine tD (λ a=>?_) λ a=>tS (by rw[if_neg a]);rw[if_pos a,Ani];refine Adv _ i AQ λ x hx=>?_;obtain ⟨b,h2,j,_⟩:=Abd s x (by rw[f];exact hx);exact Na (Asf _ b AQ AQ)
def pw1:M6->Ai
 | .i n=>[TZ n]
 | .s l=>if l=[] then [] else [l]
theorem Av4(l:List M6):(l.flatMap pw1).length<=l.length:=by
 induction l with
 | nil=>simp
 | cons x r a=>
   have:(pw1 x).length<=1:=by
     cases x with
     | i n=>simp[pw1]
     | s l=>simp only[pw1];split<;>simp
   simp only[List.flatMap_cons,Bw,Br];omega
theorem Ku(fs):(Et fs).length<=PX fs:=by
 cases fs with
 | nil=>simp[Et,PX]
 | cons x r=>have:=VR (x::r) AT;omega
theorem A6{p:Prop}(h:p:=by simp only[CM];omega):p:=h
theorem Aho(ps)(k:ps.length<=10)(e:∀x∈ps,-9223372036854775808<=RO x/\RO x<=9223372036854775807)(m:PX (ps.flatMap pw1)<=5000000):DT (Un ps) (λ r=>r=Et (ps.flatMap pw1)++[10]):=by
 unfold Un;refine tB (Awn (Q:=λ r=>r=(ps.flatMap pw1,(ps.length:Int))) ps pw1 ?_ ?_) ?_
 . intro i x hx;have g:=Fq hx;have h2:=e x (Bt hx);have b:=Av4 (ps.take i);rw[BJ] at b;rw[XA.eq_1,show decide ((i:Int)<((ps.length:Nat):Int))=true from Bi AQ,Bm,EO hx,Bd];have f:i64.wrap ((i:Int)+1)=(i:Int)+1:=C2 AQ AQ;rw[f];cases x with
   | i n=>
     simp only[RO] at h2;simp only[WG,RO,Bm];unfold Abe;rw[if_pos h2,Bd,show decide (((ps.take i).flatMap pw1).length+1<10000000)=true from Bi AQ,Bm];rfl
   | s l=>
     simp only[WG,Afi,Bl];by_cases a:l=[]
     . simp only[a,Cy,Bm,pw1,Cf,List.append_nil]
     . simp only[a,decide_false,Bl,pw1,if_false];rw[show decide (((ps.take i).flatMap pw1).length+1<10000000)=true from Bi AQ,Bm]
 . rw[XA.eq_1,show decide ((ps.length:Int)<((ps.length:Nat):Int))=false from Bj AQ,Bl];exact tS rfl
 . rintro _ rfl;dsimp only;have b:=Av4 ps;have j:=Ku (ps.flatMap pw1);unfold Uo;rw[if_pos ⟨rfl,AQ,AQ⟩,Bd];exact tG A6 λ _=>tS rfl
def kf(k:Int):Option Sfm:=JE.find? (λ f=>decide (f.kind=k))
def Z1(a b:G9):Bool:=decide (a.kind=b.kind)&&(decide (a.a=b.a)&&(decide (a.b=b.b)&&decide (a.text=b.text)))
theorem Awv{a b}:Z1 a b=true↔a=b:=by
 obtain ⟨e,f,g,i⟩:=a;obtain ⟨j,k,l,m⟩:=b;simp[Z1]
def RG(e:G9)(T:Ac):Ac×Bool:=if (D9 T).2.2=0/\(D9 T).1.length=1 then (T,decide ((evV ((D9 T).1.getD 0 ln0).fs).2=0)&&Z1 (evV ((D9 T).1.getD 0 ln0).fs).1 e) else ([],false)
def Sk(e:G9):Ai:=if e.text=[] then [Y3] else [Y3,e.text]
def Sl(f:Sfm)(e:G9):Ai:=if f.numbers=2 then [f.word,TZ e.a,TZ e.b] else [f.word,TZ e.a]
def VQ(e:G9):Ac×Bool:=if e.kind=1 then RG e (Et (Sk e)++[10]) else match kf e.kind with
 | some f=>RG e (Et (Sl f e)++[10])
 | none=>([],false)
theorem Axu(g)(e:G9)(y:g.length<=1000):DT (Tm g e.kind e.a e.b e.text) (λ r=>r.2=(e.kind,e.a,e.b,e.text)/\((r.1=-1/\g.find? (λ f=>decide (f.kind=e.kind))=none)∨(0<=r.1/\∃f,g[r.1.toNat]?=some f/\g.find? (λ f=>decide (f.kind=e.kind))=some f))):=by
 unfold Tm;refine tB (P:=λ r=>match r with
   | .inl s=>(s.1,s.2.1,s.2.2.1,s.2.2.2.1)=(e.kind,e.a,e.b,e.text)/\g.find? (λ f=>decide (f.kind=e.kind))=none
   | .inr r=>r.2=(e.kind,e.a,e.b,e.text)/\(0<=r.1/\∃f,g[r.1.toNat]?=some f/\g.find? (λ f=>decide (f.kind=e.kind))=some f)) (tL (λ s=>(s.1,s.2.1,s.2.2.1,s.2.2.2.1)=(e.kind,e.a,e.b,e.text)/\∃i:Nat,s.2.2.2.2=(i:Int)/\i<=g.length/\g.find? (λ f=>decide (f.kind=e.kind))=(g.drop i).find? (λ f=>decide (f.kind=e.kind))) (λ s=>g.length - s.2.2.2.2.toNat) ⟨rfl,0,rfl,AQ,AT⟩ ?_) ?_
 . rintro ⟨k,a,b,t,j⟩ ⟨n,i,h2,q,l⟩;dsimp only at n h2 q l;simp only[Ci] at n;obtain ⟨rfl,rfl,rfl,rfl⟩:=n;subst h2;rw[Y2.eq_1];refine tD (λ Dv=>tI AQ λ f o _=>?_) λ v=>tS ?_
   . have hx:g[i]?=some f:=by rw[Be] at o;exact o
     have u:g.drop i=f::g.drop (i+1):=by
       obtain ⟨w,x⟩:=Bn.1 hx;rw[List.drop_eq_getElem_cons w,x]
     rw[u,List.find?_cons] at l;unfold H7;rw[Bd];by_cases p:f.kind=e.kind
     . have m:decide (f.kind=e.kind)=true:=Bi p;rw[m] at l;simp only[m,Bm];exact tS ⟨rfl,AS,f,by dsimp only;rw[Be];exact hx,l⟩
     . have m:decide (f.kind=e.kind)=false:=Bj p;rw[m] at l;simp only[m,Bl];refine tS ⟨⟨rfl,i+1,?_,AQ,l⟩,?_⟩
       . dsimp only;rw[C2 AQ AQ];omega
       . dsimp only;rw[C2 AQ AQ];omega
   . refine ⟨rfl,?_⟩;rw[l,Cu AQ];rfl
 . rintro (⟨k,a,b,t,j⟩ | ⟨i,r⟩) h
   . dsimp only at h;simp only[Ci] at h;obtain ⟨⟨rfl,rfl,rfl,rfl⟩,h2⟩:=h;exact tS ⟨rfl,.inl ⟨rfl,h2⟩⟩
   . exact tS ⟨h.1,.inr h.2⟩
theorem XX:∀f∈JE,f.word≠[]/\f.word.length<=10/\Oe f.word=true:=AV
theorem Pu(n)(h:-9223372036854775808<=n/\n<=9223372036854775807):(TZ n).length<=21:=by
 unfold TZ;split
 . have:=OH 19 (-n).toNat AQ;simp only[Br];omega
 . have:=OH 19 n.toNat AQ;omega
theorem Avu(e)(T)(k a b)(tx)(i:(k,a,b,tx)=(e.kind,e.a,e.b,e.text)):DT (Option.bind (Oh T) λ (NG,x47,x48)=>cond (decide (x48=0)) (cond (decide (((NG.length:Nat):Int)=1)) (Option.bind (CU NG 0) λ Va=>Option.bind (JB Va.fs) λ (VO,x57)=>cond (decide (x57=0)) (some (T,(decide (VO.kind=k)&&(decide (VO.a=a)&&(decide (VO.b=b)&&decide (VO.text=tx)))))) (some (T,false))) (some (([]:Ac),false))) (some (([]:Ac),false))) (λ r=>r=RG e T):=by
 simp only[Ci] at i;obtain ⟨rfl,rfl,rfl,rfl⟩:=i;have f:=Abd T;unfold Oh RG;rw[Bd];generalize D9 T=p at*;obtain ⟨m,at_,s⟩:=p;dsimp only at f ⊢;refine tD (λ g=>tD (λ l=>?_) λ l=>tS (by rw[if_neg (AQ)])) λ g=>tS (by rw[if_neg (AQ)]);obtain ⟨x,rfl⟩:∃x,m=[x]:=CG.1 AQ;obtain ⟨n,t,u,v⟩:=f x AT;rw[if_pos ⟨g,rfl⟩,show CU [x] 0=some x from rfl,Bd,Na (Z6 x.fs n AQ AQ),Bd]
 show DT _ (λ r=>r=(T,decide ((evV x.fs).2=0)&&Z1 (evV x.fs).1 e))
 generalize evV x.fs=q;obtain ⟨o,j⟩:=q;dsimp only;refine tD (λ h=>tS (by rw[Bi h];rfl)) λ h=>tS (by rw[Bj h];rfl)
theorem Akq(e)(y:-9223372036854775808<=e.a/\e.a<=9223372036854775807)(hb:-9223372036854775808<=e.b/\e.b<=9223372036854775807)(I:e.text.length<=2000000):DT (Of e) (λ r=>r=VQ e):=by
 unfold Of;have o:[M6.s [111,114,100,101,114],M6.s e.text].flatMap pw1=Sk e:=by
   unfold Sk;split
   . rename_i h;rw[h];rfl
   . rename_i h;simp[pw1,h,Y3]
 have HO:PX (Sk e)<=5000000:=by unfold Sk;split<;>simp[PX,Y3]<;>omega
 have w:=Aho [M6.s [111,114,100,101,114],M6.s e.text] AT (by intro x hx;simp only[BX,BN,or_false] at hx;rcases hx with rfl | rfl<;>simp[RO]) (by rw[o];exact HO);rw[o] at w;rw[Na w,Bd];unfold VQ;refine tD (λ u=>?_) λ u=>?_
 . rw[if_pos u];exact Avu e _ _ _ _ _ rfl
 . rw[if_neg u,Ad4,Bd];refine tB (Axu JE e AV) ?_;rintro ⟨i,k,a,b,t⟩ ⟨v,q⟩;dsimp only at v q ⊢;have n:kf e.kind=JE.find? (λ f=>decide (f.kind=e.kind)):=rfl;rcases q with ⟨q,j⟩ | ⟨q,f,j,E⟩
   . rw[n,j];exact tD (λ _=>tS rfl) λ h=>AQ
   . rw[n,E];have B:=Abf f (Bt j);have l:=XX f (Bt j);have H:i.toNat<JE.length:=(Bn.1 j).1;have HP:0<=i/\i<(JE.length:Int):=AQ;refine tD (λ h=>AQ) λ _=>?_;rw[Bd];refine tI HP λ g m _=>?_;rw[j] at m;cases m;rw[Bd];refine tI HP λ g m _=>?_;rw[j] at m;cases m;have p:=v;simp only[Ci] at p;obtain ⟨_,ea,z,_⟩:=p;subst ea z;have Sr:=Pu e.a y;have JT:=Pu e.b hb;rw[Abo AQ];refine tG AQ λ _=>?_;have Bsm:([M6.s f.word,M6.i e.a,M6.i e.b].take (Int.toNat (1+f.numbers))).flatMap pw1=Sl f e:=by
       unfold Sl;rcases B.1 with h | h
       . rw[h,if_neg AQ];simp[pw1,l.1]
       . rw[h,if_pos rfl];simp[pw1,l.1]
     have Boo:PX (Sl f e)<=5000000:=by unfold Sl;split<;>simp only[PX]<;>omega
     have h2:=Aho ([M6.s f.word,M6.i e.a,M6.i e.b].take (Int.toNat (1+f.numbers))) (by simp only[BJ,Br,Bz];omega) (by
       intro x hx;have hx:=CA hx;simp only[BX,BN,or_false] at hx;rcases hx with rfl | rfl | rfl
       . simp[RO]
       . exact y
       . exact hb) (by rw[Bsm];exact Boo)
     rw[Bsm] at h2;rw[Na h2,Bd];exact Avu e _ _ _ _ _ v
def VB(e:G9):Ac:=if e.kind=1 then Et (Sk e) else match kf e.kind with
 | some f=>if 0<=e.a/\e.a<=9999/\0<=e.b/\e.b<=9999 then Et (Sl f e) else []
 | none=>[]
def okP(e:G9)(s:Ac):Bool:=decide ((prV s).2.2=0)&&(match (prV s).1 with
 | [x]=>Z1 x e
 | _=>false)
theorem Ako:∀(b:AB) (acc:Au),(prL b acc).2.2=0->(prL b acc).1.length=acc.length+b.length
 | [],acc,h=>by
   simp only[prL] at h ⊢;split at h
   . cases h
   . rename_i a;rw[if_neg a];rfl
 | x::r,acc,h=>by
   simp only[prL] at h ⊢;split at h
   . rename_i a;rw[if_pos a,Ako r _ h];simp only[Bw,Br,Bz];omega
   . rename_i a;exact (a h).elim
theorem Av7(e)(s):okP e s=(RG e s).2:=by
 unfold okP prV RG;generalize D9 s=p;obtain ⟨k,at_,i⟩:=p;dsimp only;by_cases b:i=0
 . rw[if_pos b]
   match k with
   | []=>simp[prL]
   | [x]=>
     rw[if_pos ⟨b,rfl⟩];simp only[prL,CK]
     show _=(decide ((evV x.fs).2=0)&&Z1 (evV x.fs).1 e)
     generalize evV x.fs=q;obtain ⟨g,f⟩:=q;dsimp only;by_cases a:f=0
     . rw[if_pos a,Bi a];rfl
     . rw[if_neg a,Bj a];rfl
   | x::y::r=>
     rw[if_neg AT];have a:=Ako (x::y::r) [];generalize prL (x::y::r) []=q at*;obtain ⟨l,m,g⟩:=q;dsimp only at a ⊢;by_cases h2:g=0
     . have j:=a h2
       match l with
       | []=>simp
       | [z]=>simp at j
       | z::o::n=>simp
     . rw[Bj h2];rfl
 . rw[if_neg b,if_neg (λ h=>b h.1)];simp[b]
theorem Ace:∀(S:Ai) (k:Nat) (acc:AB),GF (S++[[]]) k acc=GF S k acc
 | [],k,acc=>by simp[GF,Il]
 | t::r,k,acc=>by simp only[CD,GF,Ace r]
theorem Aha:∀s:Ac,D4 10 (s++[10])=D4 10 s++[[]]
 | []=>rfl
 | b::r=>by
   have a:=Aha r;simp only[CD,D4,a];split
   . rfl
   . have EH:=Uj 10 r;cases h:D4 10 r with
     | nil=>exact (EH h).elim
     | cons x e=>rfl
theorem Axw(s)(h:s.length<6000):D9 (s++[10])=D9 s:=by
 unfold D9;rw[if_neg A2,if_neg AQ,Aha,Ace]
theorem Atg(s)(h:6000<s.length):(D9 s).2.2=1:=by unfold D9;rw[if_pos h]
def Bet(g:G9):Prop:=(g.kind=1/\g.a=0/\g.b=0/\∃e:Ai,e.length<=3/\(∀w∈e,Oe w=true)/\g.text=Et e)∨(∃f∈JE,g.kind=f.kind/\0<=g.a/\g.a<=9999/\0<=g.b/\g.b<=9999/\(f.numbers=1->g.b=0)/\g.text=[])
theorem Ad6(neg)(l)(h:(numOf neg l).2=true):-9999<=(numOf neg l).1/\(numOf neg l).1<=9999:=by
 cases l with
 | nil=>simp[numOf] at h
 | cons b r=>
   simp only[numOf] at h ⊢;by_cases a:4<r.length+1∨((b.toNat:Int)=48/\(neg=true∨1<r.length+1))
   . rw[if_pos a] at h;cases h
   . rw[if_neg a] at h ⊢;by_cases h2:TY (b::r)=true
     . rw[if_pos h2];have f:∀c∈b::r,48<=c.toNat/\c.toNat<=57:=λ c i=>by
         have:=BB.1 h2 c i;simp[T0] at this;omega
       have e:(b::r).length<=4:=by simp only[Br];omega
       have g:=Bj6 (b::r) f (b::r).length (Bk _) e;have j:=p10 (b::r).length e;rw[BE] at g;simp only;split<;>omega
     . rw[if_neg h2] at h;cases h
theorem Akt(x)(h:nmB x=true):0<=(GP x).1/\(GP x).1<=9999:=by
 obtain ⟨a,h2⟩:=(Bdd x).1 h;refine ⟨h2,?_⟩;unfold GP at a ⊢;split
 . rename_i b;rw[if_pos b] at a;exact (Ad6 _ _ a).2
 . rename_i b;rw[if_neg b] at a;exact (Ad6 _ _ a).2
theorem Bof(w)(h:¬(kw w).1=0):∃f∈JE,kw w=(f.kind,f.numbers):=by
 unfold kw at h ⊢;cases a:JE.find? (λ f=>decide (w=f.word)) with
 | none=>rw[a] at h;exact (h rfl).elim
 | some f=>exact ⟨f,List.mem_of_find?_eq_some a,rfl⟩
theorem Bf7(fs)(j:∀w∈fs,Oe w=true)(h:(evV fs).2=0):Bet (evV fs).1:=by
 cases fs with
 | nil=>simp[evV] at h
 | cons w rest=>
   rw[Ae9] at h ⊢;split at h
   . rename_i b;rw[if_pos b];split at h
     . simp at h
     . rename_i i;rw[if_neg i];exact .inl ⟨rfl,rfl,rfl,rest,AQ,λ x hx=>j x (by simp[hx]),rfl⟩
   . rename_i b;rw[if_neg b];unfold evN at h ⊢;split at h
     . simp at h
     . rename_i Km;rw[if_neg Km];obtain ⟨f,g,a⟩:=Bof w Km;rw[a] at h ⊢;dsimp only at h ⊢;split at h
       . rename_i hlen;rw[if_pos hlen]
         match rest,hlen,h with
         | [x],hlen,h=>
           dsimp only at h ⊢;split at h
           . rename_i hx;rw[if_pos hx];have:=Akt x hx;exact .inr ⟨f,g,rfl,this.1,this.2,AT,AT,λ _=>rfl,rfl⟩
           . simp at h
         | [x,y],hlen,h=>
           dsimp only at h ⊢;split at h
           . rename_i hx;rw[if_pos hx];rw[BA] at hx;have e:=Akt x hx.1;have h2:=Akt y hx.2;refine .inr ⟨f,g,rfl,e.1,e.2,h2.1,h2.2,λ k=>?_,rfl⟩;simp only[Br,Bz] at hlen;omega
           . simp at h
         | [],hlen,h=>simp at h
         | _::_::_::_,hlen,h=>simp at h
       . simp at h
theorem QT(e)(s)(h:(RG e s).2=true):Bet e/\s.length<=6000/\(RG e s).1=s:=by
 have b:=Abd s;have Ca8:=Atg s;unfold RG at h ⊢;split at h
 . rename_i f;rw[if_pos f];refine ⟨?_,?_,rfl⟩
   . generalize D9 s=p at*;obtain ⟨g,at_,i⟩:=p;dsimp only at*;obtain ⟨x,rfl⟩:∃x,g=[x]:=CG.1 f.2;have a:(decide ((evV x.fs).2=0)&&Z1 (evV x.fs).1 e)=true:=h;simp only[BA,BM] at a;have h2:=Bf7 x.fs (b x AT).2.2.2 a.1;rw[Awv.1 a.2] at h2;exact h2
   . rcases Nat.lt_or_ge 6000 s.length with a | a
     . have:=Ca8 a;omega
     . exact a
 . cases h
theorem Bhr(e)(s)(h:s.length<6000):(RG e (s++[10])).2=(RG e s).2:=by
 unfold RG;rw[Axw s h];split<;>rfl
theorem Avv(e):(RG e []).2=false:=rfl
theorem Bco(ws)(h:∀w∈ws,Oe w=true)(b:ws.length<=3):(Et ws).length<=39:=by
 have a:=Ku ws;have h2:=Ake ws h;omega
theorem Ts(e):(VQ e).2=okP e (VB e)/\((VQ e).2=true->(VQ e).1=VB e++[10]/\Bet e):=by
 rw[Av7];unfold VQ VB;by_cases m:e.kind=1
 . rw[if_pos m,if_pos m];rcases Nat.lt_or_ge (Et (Sk e)).length 6000 with h | h
   . refine ⟨Bhr e _ h,λ j=>?_⟩;obtain ⟨i,n,k⟩:=QT e _ j;exact ⟨k,i⟩
   . have j:(RG e (Et (Sk e)++[10])).2=false:=by
       cases l:(RG e (Et (Sk e)++[10])).2
       . rfl
       . have:=(QT e _ l).2.1;simp only[Bw,CM] at this;omega
     have h2:(RG e (Et (Sk e))).2=false:=by
       cases l:(RG e (Et (Sk e))).2
       . rfl
       . exfalso;rcases (QT e _ l).1 with ⟨_,_,_,u,i,n,k⟩ | ⟨f,o,i,_⟩
         . have r:=Bco u n i;rw[<-k] at r;have s:=Ku (Sk e);have w:PX (Sk e)<=60:=by unfold Sk;split<;>simp[PX,Y3]<;>omega
           omega
         . have:=Abf f o;omega
     rw[j,h2];exact ⟨rfl,λ h=>by cases h⟩
 . rw[if_neg m,if_neg m];cases o:kf e.kind with
   | none=>exact ⟨(Avv e).symm,λ h=>by cases h⟩
   | some f=>
     dsimp only;have p:f∈JE:=List.mem_of_find?_eq_some o;by_cases q:0<=e.a/\e.a<=9999/\0<=e.b/\e.b<=9999
     . rw[if_pos q];have t:=XX f p;have Sr:=Pu e.a AQ;have JT:=Pu e.b AQ;have h:(Et (Sl f e)).length<6000:=by
         have j:=Ku (Sl f e);have h2:PX (Sl f e)<=100:=by unfold Sl;split<;>simp only[PX]<;>omega
         omega
       refine ⟨Bhr e _ h,λ j=>?_⟩;obtain ⟨i,n,k⟩:=QT e _ j;exact ⟨k,i⟩
     . rw[if_neg q];have j:(RG e (Et (Sl f e)++[10])).2=false:=by
         cases l:(RG e (Et (Sl f e)++[10])).2
         . rfl
         . exfalso;rcases (QT e _ l).1 with ⟨i,_⟩ | ⟨g,v,i,n,k,r,s,_⟩
           . exact m i
           . exact q ⟨n,k,r,s⟩
       rw[j,Avv];exact ⟨rfl,λ h=>by cases h⟩
theorem Br1(e)(h:(VQ e).2=true):(VQ e).1≠[]/\(VQ e).1.length<=10000:=by
 have a:=(Ts e).2 h;rw[a.1];refine ⟨AT,?_⟩;have h2:=(Ts e).1;rw[h,Av7] at h2;have b:=(QT e _ h2.symm).2.1;simp only[Bw,CM];omega
theorem Bpe:∀f∈JE,kw f.word=(f.kind,f.numbers):=AV
def wlL:Ai:=[[100,111,119,110],[117,112],[108,111,115,101,45,100,111,119,110],[108,111,115,101,45,117,112],[116,119,105,99,101,45,100,111,119,110],[116,119,105,99,101,45,117,112],[116,105,109,101,114],[100,114,105,118,101],[115,101,114,118,101],[102,97,117,108,116]]
theorem Bj4:wlL=JE.map (·.word):=rfl
theorem Ahd(e)(H:e.text.length<=2000000):DT (Uk e) (λ r=>r=VB e):=by
 unfold Uk VB;refine tD (λ l=>?_) λ l=>?_
 . rw[if_pos l];unfold Sk;refine tD (λ k=>tS (by rw[if_pos k];rfl)) λ k=>tG A5 λ _=>tS ?_;rw[if_neg k];simp[Et,Y3]
 . rw[if_neg l];refine tB (P:=λ r=>match r with
     | .inl _=>kf e.kind=none
     | .inr t=>∃f,kf e.kind=some f/\t=if 0<=e.a/\e.a<=9999/\0<=e.b/\e.b<=9999 then Et (Sl f e) else []) (tL (λ s=>∃i:Nat,s=(i:Int)/\i<=10/\kf e.kind=(JE.drop i).find? (λ f=>decide (f.kind=e.kind))) (λ s=>10 - s.toNat) ⟨0,rfl,AQ,rfl⟩ ?_) ?_
   . rintro s ⟨i,rfl,h2,g⟩;rw[Acl.eq_1];refine tD (λ Dv=>?_) λ v=>tS ?_
     . have U2:i<JE.length:=by have:JE.length=10:=rfl;omega
       have hx:JE[i]?=some JE[i]:=by simp[U2]
       have n:JE[i]∈JE:=Ca U2;have u:JE.drop i=JE[i]::JE.drop (i+1):=List.drop_eq_getElem_cons U2;rw[u,List.find?_cons] at g;have w:CU wlL (i:Int)=some JE[i].word:=by
         rw[Bj4];refine EO ?_;rw[BC,hx];rfl
       have m:=Bpe _ n;have Bsk:=Abf _ n;have x:=XX _ n;generalize JE[i]=f at*;rw[show CU [[100,111,119,110],[117,112],[108,111,115,101,45,100,111,119,110],[108,111,115,101,45,117,112],[116,119,105,99,101,45,100,111,119,110],[116,119,105,99,101,45,117,112],[116,105,109,101,114],[100,114,105,118,101],[115,101,114,118,101],[102,97,117,108,116]] (i:Int)=some f.word from w,Bd,Ach,m,Bd];dsimp only;refine tD (λ j=>?_) λ j=>?_
       . rw[Bi j] at g;dsimp only at g;refine tD (λ h=>tS ⟨f,g,by rw[if_neg AQ]⟩) λ y=>tD (λ h=>tS ⟨f,g,by rw[if_neg AQ]⟩) λ z=>tD (λ h=>tS ⟨f,g,by rw[if_neg AQ]⟩) λ B=>tD (λ h=>tS ⟨f,g,by rw[if_neg AQ]⟩) λ E=>?_;have Sr:=Pu e.a AQ;have JT:=Pu e.b AQ;have p:0<=e.a/\e.a<=9999/\0<=e.b/\e.b<=9999:=AQ;refine tG A6 λ _=>?_;unfold Acu;rw[if_pos AQ,Bd];refine tG A2 λ _=>?_;refine tD (λ o=>?_) λ o=>tS ⟨f,g,?_⟩
         . rw[if_pos AQ,Bd];refine tG A6 λ _=>tG A2 λ _=>tS ⟨f,g,?_⟩;rw[if_pos p];unfold Sl;rw[if_pos o];simp[Et]
         . rw[if_pos p];unfold Sl;rw[if_neg o];simp[Et]
       . rw[Bj j] at g;refine tS ⟨⟨i+1,?_,AQ,g⟩,?_⟩
         . rw[C2 AQ AQ];omega
         . rw[C2 AQ AQ];omega
     . have:i=10:=AQ;subst this;exact g
   . rintro (s | t) h
     . dsimp only at h;exact tS (by rw[h])
     . obtain ⟨f,q,rfl⟩:=h;exact tS (by rw[q])
theorem Ank(es)(B:∀e∈es,e.text.length<=2000000)(v:es.length<=2000000):DT (Qh es) (λ r=>r=Ab3 VQ es):=by
 have w:∀e∈es,(VB e).length<=2000010:=by
   intro e k;have g:=B e k;unfold VB;split
   . have h2:=Ku (Sk e);have n:PX (Sk e)<=2000010:=by unfold Sk;split<;>simp[PX,Y3]<;>omega
     omega
   . split
     . rename_i f I;have N:=XX f (List.mem_of_find?_eq_some I);split
       . have Sr:=Pu e.a AQ;have JT:=Pu e.b AQ;have h2:=Ku (Sl f e);have n:PX (Sl f e)<=100:=by unfold Sl;split<;>simp only[PX]<;>omega
         omega
       . simp
     . simp
 unfold Qh Ab3;refine tD (λ H=>tS (by rw[if_pos (AQ)])) λ H=>?_;rw[if_neg AQ];refine tB (P:=λ r:Int⊕(Ac×Int)=>match r with
   | .inl _=>es.all (λ e=>(VQ e).2)=true
   | .inr t=>t=([],20)/\¬es.all (λ e=>(VQ e).2)=true) (MF (Q:=λ r:Int⊕(Ac×Int)=>match r with
   | .inl _=>es.all (λ e=>(VQ e).2)=true
   | .inr t=>t=([],20)/\¬es.all (λ e=>(VQ e).2)=true) es (λ i=>∀e∈es.take i,(VQ e).2=true) AT ?_ ?_) ?_
 . intro i x hx o u W;rw[Ri.eq_1];refine tD (λ _=>?_) λ h=>AQ;rw[EO hx,Bd,Na (Ahd x (B x o)),Bd,Ack,Bd];have m:=(Ts x).1;unfold okP at m;have bad:(VQ x).2=false->¬es.all (λ e=>(VQ e).2)=true:=λ g h2=>by
     have:=BB.1 h2 x o;rw[g] at this;cases this
   have Beu:(VQ x).2=true->∀e∈es.take (i+1),(VQ e).2=true:=λ g e k=>by
     rw[Fv hx] at k;rcases BD.1 k with k | k
     . exact u e k
     . rw[BG.1 k];exact g
   generalize prV (VB x)=p at*;obtain ⟨l,at_,V⟩:=p;dsimp only at m ⊢;have T:i64.wrap ((i:Int)+1)=(i:Int)+1:=C2 AQ AQ;refine tD (λ q=>tD (λ g=>?_) λ g=>tS ⟨rfl,bad ?_⟩) λ q=>tS ⟨rfl,bad ?_⟩
   . obtain ⟨y,rfl⟩:∃y,l=[y]:=CG.1 AQ;rw[show CU [y] 0=some y from rfl,Bd];rw[Bi q,Bool.true_and] at m;dsimp only at m
     show DT (cond (Z1 y x) _ _) _
     rw[<-m];refine tC (λ h=>tS ⟨T,Beu h⟩) λ h=>tS ⟨rfl,bad h⟩
   . rw[m,Bi q,Bool.true_and]
     match l,g with
     | [],_=>rfl
     | [y],g=>exact (g rfl).elim
     | y::z::r,_=>rfl
   . rw[m,Bj q];rfl
 . intro u;rw[Ri.eq_1];refine tD (λ h=>AQ) λ _=>tS ?_;rw[BE] at u;exact BB.2 u
 . rintro (s | t) h
   . dsimp only at h ⊢;rw[if_pos h];have Fx:=BB.1 h;have K:∀l:Au,(∀e∈l,e∈es)->l.flatMap (λ e=>VB e++[10])=Qz VQ l:=by
       intro l v;unfold Qz
       induction l with
       | nil=>rfl
       | cons x r U=>
         rw[List.flatMap_cons,List.flatMap_cons,U (λ e k=>v e (by simp[k])),((Ts x).2 (Fx x (v x AT))).1]
     refine tB (P:=λ r:(Ac×Int)⊕(Ac×Int)=>match r with
       | .inl s=>s.1=Qz VQ es/\s.1.length<=6000
       | .inr t=>t=([],1)/\6000<(Qz VQ es).length) (tL (λ s=>∃i:Nat,s.2=(i:Int)/\i<=es.length/\s.1=Qz VQ (es.take i)/\s.1.length<=6000) (λ s=>es.length - s.2.toNat) ⟨0,rfl,AQ,by simp[Qz],AT⟩ ?_) ?_
     . rintro ⟨acc,j⟩ ⟨i,g,h2,n,E⟩;dsimp only at g h2 n E;subst g;rw[V3.eq_1];refine tD (λ Dv=>tI AQ λ x hx o=>?_) λ R=>tS ?_
       . have Kl:es[i]?=some x:=by rw[Be] at hx;exact hx
         have S:=w x o;have PL:acc++(VB x++[10])=Qz VQ (es.take (i+1)):=by
           rw[Fv Kl,n];unfold Qz;rw[List.flatMap_append,List.flatMap_singleton,((Ts x).2 (Fx x o)).1]
         rw[Na (Ahd x (B x o)),Bd];refine tG A6 λ _=>tG A2 λ _=>tD (λ hb=>tS ⟨rfl,?_⟩) λ hb=>tS ⟨⟨i+1,?_,AQ,PL,?_⟩,?_⟩
         . rw[PL] at hb;have XK:(Qz VQ es).length=(Qz VQ (es.take (i+1))).length+(Qz VQ (es.drop (i+1))).length:=by
             conv=>lhs;rw[<-List.take_append_drop (i+1) es]
             unfold Qz;rw[List.flatMap_append,Bw]
           omega
         . dsimp only;rw[C2 AQ AQ];omega
         . dsimp only;omega
         . dsimp only;rw[C2 AQ AQ];omega
       . have:i=es.length:=AQ;subst this;rw[BE] at n;exact ⟨n,E⟩
     . rintro (⟨a,b⟩ | t) h
       . obtain ⟨g,h2⟩:=h;dsimp only at g h2 ⊢;rw[g] at h2;exact tS (by rw[if_neg (AQ),g])
       . obtain ⟨g,h2⟩:=h;exact tS (by rw[if_pos h2,g])
   . obtain ⟨g,h2⟩:=h;exact tS (by rw[if_neg h2,g])
theorem Asc(l)(g:l.length<=1000000):Ab9 l l=some true:=by
 refine Na ?_;unfold Ab9;refine tD (λ _=>?_) λ h=>AQ;refine tB (P:=λ r:Int⊕Bool=>match r with
   | .inl _=>True
   | .inr b=>b=true) (MF (Q:=λ r:Int⊕Bool=>match r with
   | .inl _=>True
   | .inr b=>b=true) l (λ _=>True) trivial ?_ ?_) ?_
 . intro i x hx j _ f;have e:i64.wrap ((i:Int)+1)=(i:Int)+1:=C2 AQ AQ;rw[Xt.eq_1];refine tD (λ _=>?_) λ h=>AQ;rw[EO hx,Bd,Bd];refine tC (λ _=>?_) (λ h=>?_);all_goals first
     | exact tS ⟨e,trivial⟩
     | (exfalso;simp at h)
     | (refine tS ?_;simp)
 . intro _;rw[Xt.eq_1];exact tD (λ h=>AQ) λ _=>tS trivial
 . rintro (a | b) h
   . exact tS rfl
   . exact tS h
theorem Bjm(s):(prV s).1.length<=10000:=by
 have e:=(RB s).1;unfold prV;split
 . have h2:=Ako (D9 s).1 [];by_cases b:(prL (D9 s).1 []).2.2=0
   . rw[h2 b];simp;omega
   . have:∀(a:AB) (acc:Au),¬(prL a acc).2.2=0->(prL a acc).1=[]:=by
       intro a
       induction a with
       | nil=>intro acc h;simp only[prL] at h ⊢;split<;>simp_all
       | cons x r f=>intro acc h;simp only[prL] at h ⊢;split<;>simp_all
     rw[this _ _ b];simp
 . simp
theorem Aoc:Xu=some true:=by
 unfold Xu;rw[Ad3,Bd];have h:prV [111,114,100,101,114,32,116,97,115,107,32,97,32,98,10,100,111,119,110,32,48,32,49,32,35,32,105,116,32,97,114,114,105,118,101,115,10,111,114,100,101,114,10]=([⟨1,0,0,[116,97,115,107,32,97,32,98]⟩,⟨2,0,1,[]⟩,⟨1,0,0,[]⟩],0,0):=AX;rw[h];rfl
theorem KC(l)(i m)(a:0<=i/\i<1000000000)(b:m<1000000):DT (EF l i m) (λ r=>0<=r.1/\(1<=m->r.1<m)/\r.2.1=l/\r.2.2=i+1):=Js l i m a b
theorem Awx(l):DT (Ab8 l) (λ _=>True):=by
 unfold Ab8;refine tB (KC l 0 8 AQ AQ) ?_;rintro ⟨k,l2,j⟩ ⟨h1,h2,I,K⟩;dsimp only at h1 h2 I K ⊢;have h5:=h2 AQ;subst I K;refine tB (P:=λ _=>True) (tL (λ s=>s.1=l2/\1<=s.2.1/\s.2.1<=1000 - 100*s.2.2.2/\0<=s.2.2.2/\s.2.2.2<=8/\(s.2.2.1.length:Int)<=10000 - 1000*s.2.2.2) (λ s=>s.2.2.2.toNat) ⟨rfl,AS,AS,AS,AS,by dsimp only[List.length_nil];omega⟩ ?_) (λ ⟨a,b,c,d⟩ _=>tS trivial);rintro ⟨l3,t,s,n⟩ ⟨Q,k2,k3,k4,k5,k6⟩;dsimp only at Q k2 k3 k4 k5 k6;subst Q;rw[Aci.eq_1];refine tD (λ hn=>?_) λ _=>tS trivial;refine tB (KC _ _ _ AQ AQ) ?_;rintro ⟨w,l4,t2⟩ ⟨p1,S,rfl,rfl⟩;dsimp only at p1 S ⊢;have p3:=S AQ;refine tB (KC _ _ _ AQ AQ) ?_;rintro ⟨w2,B,t3⟩ ⟨p4,p5,rfl,rfl⟩;dsimp only at p4 p5 ⊢;have inner:∀(x:Int) (e:Int) (m:Ac),0<=x/\x<12->t<=e->e<=t+10->(m.length:Int)<=s.length+20->DT (C9 (Qg x) (B,e,0,m)) (λ r=>r.1=B/\e<=r.2.1/\r.2.1<=e+40/\(r.2.2.2.length:Int)<=m.length+40):=by
   intro x e m hx a1 a2 a0;refine tL (λ q=>q.1=B/\0<=q.2.2.1/\q.2.2.1<=4/\e<=q.2.1/\q.2.1<=e+8*q.2.2.1/\(q.2.2.2.length:Int)<=m.length+10*q.2.2.1) (λ q=>5 - q.2.2.1.toNat) ⟨rfl,AS,AS,AS,AS,AS⟩ ?_;rintro ⟨l6,t6,N,s6⟩ ⟨U,q2,q3,q4,q5,q6⟩;dsimp only at U q2 q3 q4 q5 q6;subst U;rw[Qg.eq_1];refine tI A5 λ c _ hc=>?_;have XS:0<=c/\c<=2:=by
     simp only[BX,BN,or_false] at hc;omega
   refine tB (KC _ _ _ AQ AQ) ?_;rintro ⟨y,R,V⟩ ⟨v,i,rfl,rfl⟩;dsimp only at v i ⊢;have r3:=i AQ;have r4:0<=Int.tdiv y 8/\Int.tdiv y 8<=1:=by
     rw[Int.tdiv_eq_ediv_of_nonneg v];omega
   rw[C2 (n:=Int.tdiv y 8) AQ AQ,C2 (n:=c+Int.tdiv y 8) AQ AQ];refine tD (λ Dv=>?_) λ _=>tS ⟨rfl,AS,AS,AS⟩;refine tB (KC _ _ _ AQ AQ) ?_;rintro ⟨j1,l8,t8⟩ ⟨u1,W,rfl,rfl⟩;dsimp only at u1 W ⊢;have u3:=W AQ;refine tB (KC _ _ _ AQ AQ) ?_;rintro ⟨z,l9,t9⟩ ⟨v1,v2,rfl,rfl⟩;dsimp only at v1 v2 ⊢;have T:∀x∈([[48],[49],[50],[49,55],[97],[45,49],[102,108,101,101,116]]:Ai),x.length<=5:=AV;refine tD (λ _=>?_) λ _=>?_
   . refine tB (KC _ _ _ AQ AQ) ?_;rintro ⟨j2,a3,a4⟩ ⟨v3,Y,rfl,rfl⟩;dsimp only at v3 Y ⊢;have v5:=Y AQ;refine tI A5 λ p _ f=>?_;have g:=T p f;refine tG A6 λ _=>tG A2 λ _=>tS ⟨⟨rfl,?_,?_,?_,?_,?_⟩,?_⟩;all_goals (dsimp only;(try simp only[List.length_append,List.length_singleton]);(try rw[C2 (n:=N+1) AQ AQ]);omega)
   . refine tI A5 λ p _ f=>?_;have g:=T p f;refine tG A6 λ _=>tG A2 λ _=>tS ⟨⟨rfl,?_,?_,?_,?_,?_⟩,?_⟩;all_goals (dsimp only;(try simp only[List.length_append,List.length_singleton]);(try rw[C2 (n:=N+1) AQ AQ]);omega)
 have Z:∀x∈([[111,114,100,101,114],[100,111,119,110],[117,112],[108,111,115,101,45,100,111,119,110],[108,111,115,101,45,117,112],[116,119,105,99,101,45,100,111,119,110],[116,119,105,99,101,45,117,112],[116,105,109,101,114],[100,114,105,118,101],[115,101,114,118,101],[102,97,117,108,116],[104,97,108,116]]:Ai),x.length<=10:=AV;refine tD (λ _=>?_) λ _=>?_
 . refine tB (KC _ _ _ AQ AQ) ?_;rintro ⟨w3,l6,t6⟩ ⟨v,i,rfl,rfl⟩;dsimp only at v i ⊢;have r3:=i AQ;refine tI A5 λ p _ f=>?_;have g:=Z p f;refine tG AQ λ _=>tB (inner w3 _ _ AQ AQ AQ (by simp only[Bw];omega)) ?_;rintro ⟨R,V,i7,s7⟩ ⟨o,E,H,u⟩;dsimp only at o E H u ⊢;simp only[Bw] at u;refine tG A6 λ _=>tS ⟨⟨o,?_,?_,?_,?_,?_⟩,?_⟩;all_goals (dsimp only;(try simp only[List.length_append,List.length_singleton]);(try rw[C2 (n:=n - 1) AQ AQ]);omega)
 . refine tI A5 λ p _ f=>?_;have g:=Z p f;refine tG AQ λ _=>tB (inner w _ _ AQ AQ AQ (by simp only[Bw];omega)) ?_;rintro ⟨R,V,i7,s7⟩ ⟨o,E,H,u⟩;dsimp only at o E H u ⊢;simp only[Bw] at u;refine tG A6 λ _=>tS ⟨⟨o,?_,?_,?_,?_,?_⟩,?_⟩;all_goals (dsimp only;(try simp only[List.length_append,List.length_singleton]);(try rw[C2 (n:=n - 1) AQ AQ]);omega)
theorem Ajt{n}(h:validN n):smallN n:=by
 obtain ⟨⟨g,b,l,El⟩,j,_,a,_⟩:=h;refine ⟨AQ,⟨AQ,λ r a=>?_⟩,AQ,AQ⟩;obtain ⟨i,k,e⟩:=MK [] a;obtain ⟨_,f,_⟩:=El i AQ;rw[e] at f;omega
theorem Awf{n}(h:validN n):u_r03_Valid_v n=some true:=by
 unfold u_r03_Valid_v;rw[if_pos (Ajt h)];simp[h]
theorem NW.Bjq{n}(h:validN n):∃C B S:Nat,NW C B S n:=by
 have f:=Awf h;obtain ⟨hb,a,_,b,_,e,Bk9,_⟩:=h;exact ⟨_,_,_,NW.of hb a b e Bk9 f⟩
theorem Bij(c)(a:97<=c.toNat/\c.toNat<=122)(i)(b:i<10):W0 (c::NA i):=by
 rw[Kq i b];refine ⟨AT,AT,λ x hx=>?_⟩;simp only[BX,BN,or_false] at hx;rcases hx with rfl | rfl
 . exact .inl a
 . right;rw[UInt8.toNat_ofNat'];omega
theorem NMS.of{n}(h:Am3 n):NMS n:=by
 obtain ⟨k,f,l,m,g,j,q,p,o,cf⟩:=h;refine ⟨λ x hx=>?_,λ x hx=>?_,g.1⟩
 . obtain ⟨i,e,b⟩:=MK T8 hx;have a:=(f i e).1;rw[b] at a;rw[a];exact Bij 98 AV i AQ
 . obtain ⟨i,e,b⟩:=MK E3 hx;have a:=(j i e).1;rw[b] at a;rw[a];exact Bij 115 AV i AQ
theorem Auk{n}(h:Am3 n)(m)(k:Nat)(i:k<=100)(f):∃r,Ql m 0 n (k:Int) f=some r/\(∀e∈r.1,Mh e)/\r.1.length<=k:=by
 obtain ⟨C,B,S,b⟩:=NW.Bjq h.valid;obtain ⟨r,a,h2,g,_⟩:=Aul b (NMS.of h) m 0 AQ (k:Int) AQ f;exact ⟨r,a,h2,AQ⟩
theorem Mh.small{e}(h:Mh e):(-9223372036854775808<=e.a/\e.a<=9223372036854775807)/\(-9223372036854775808<=e.b/\e.b<=9223372036854775807)/\e.text.length<=2000000:=by
 rcases h with ⟨_,h2,j,p,k,m,g,f⟩ | ⟨_,_,j,k,m,g,f,_⟩
 . refine ⟨AQ,AQ,?_⟩;rw[f];have:∀l:Ai,(∀w∈l,W0 w)->(jn l).length<=13*l.length:=by
     intro l
     induction l with
     | nil=>intro _;simp[jn]
     | cons w r o=>
       intro i;have q:=(i w AT).2.1;have n:=o (λ x hx=>i x (by simp[hx]));cases r with
       | nil=>simp only[jn,Br,Bz];omega
       | cons v r=>simp only[jn,Bw,Br] at n ⊢;omega
   have:=this p g;omega
 . exact ⟨AQ,AQ,by rw[f];simp⟩
def smE(es:Au):Prop:=es.length<=2000000/\∀e∈es,(-9223372036854775808<=e.a/\e.a<=9223372036854775807)/\(-9223372036854775808<=e.b/\e.b<=9223372036854775807)/\e.text.length<=2000000
theorem Axs(es)(h:smE es):C4 prog 11 [sD (E5 es)] [(1000000,(.Ew 3 J0))] λ h r=>h=[(1000000,(.Ew 3 J0))]/\r= .Em [.p (.str (Ab3 VQ es).1),iD (Ab3 VQ es).2]:=
 Asl VQ es (λ e a=>Na (Akq e (h.2 e a).1 (h.2 e a).2.1 (h.2 e a).2.2)) (λ e a b=>Br1 e b) (by have:=h.1;omega)
theorem Aos(es)(h:smE es):Qh es=some (Ab3 VQ es):=Na (Ank es (λ e a=>(h.2 e a).2.2) h.1)
theorem Bc{p:Prop}(h:p:=by simp[Fe,D.ids,JI]):p:=h
theorem Ac6(raw)(es)(l m)(Sx:smE es):
   C4 prog 3 [.p (.str raw),sD (E5 es),sD (CT l),sD (CT m)] [(1000000,(.Ew 3 J0))] λ h r=>h=[(1000000,(.Ew 3 J0))]/\r=bD true:=by
 obtain ⟨v,u,_⟩:=Awx l;refine Dw func3 rfl Avl (by simp[Tryz.f3]) ?_;simp only[go_sem];refine GJ ((Asd Aoc).Ew (id:=1000000) AV rfl Bc (λ b r a=>by rw[a.1];rfl)) ?_;rintro g r ⟨_,⟨rfl,rfl⟩,rfl⟩;simp only[go_sem];refine GJ ((Aww u).Ew (id:=1000000) AV rfl Bc (λ b r a=>by rw[a.1];rfl)) ?_;rintro g r ⟨_,⟨rfl,rfl⟩,rfl⟩;simp only[go_sem];refine GJ ((Boe l 0 5 AQ AQ AQ).Ew (id:=1000001) AV rfl (by simp[Fe,D.ids,JI,FB,AO.ids,get]) (λ b r a=>by obtain ⟨_,_,_,_,rfl,rfl⟩:=a;rfl)) ?_;rintro g r ⟨b,⟨x,n,w,N,rfl,rfl⟩,rfl⟩;obtain ⟨q,t,R7,hlen⟩:=Auk N m 25 AQ true;simp only[go_sem,FB,Nt.cs];refine GJ ((Ao6 t).Ew (id:=1000001) AV rfl A1 (λ b r a=>by rw[a.1];rfl)) ?_;rintro g r ⟨b,⟨rfl,rfl⟩,rfl⟩;simp only[go_sem];have S:smE q.1:=⟨AQ,λ e K=>Mh.small (R7 e K)⟩;have key:∀(s:Ac) (ev:Au),smE ev->True:=λ _ _ _=>trivial;refine Dm (λ i:Nat=>⟨[(9,.ref 28 0 2 2),(11,.ref 39 0 2 2),(12,.p (.int .i64 (i:Nat)))],[(28,.arr 9 1 [[.str raw],[.str v]]),(39,.arr 22 1 [[.sl (E5 es)],[.sl (E5 q.1)]]),(1000000,(.Ew 3 J0))],102⟩) (λ i=>i<=2) (λ i=>2 - i) 0 AQ (Wk.forget (by simp[ZF])) ?_;rintro i k T R;simp only[go_sem];cases o:decide ((i:Int)<2)
 . simp only[go_sem,o];all_goals (try refine DL ?_)
   all_goals (try simp only[go_sem])
   all_goals (try exact ⟨rfl,rfl⟩)
 obtain ⟨s,ev,Tw,f,j⟩:∃s ev,([[.str raw],[.str v]]:Ae).getD i []=[.str s]/\([[.sl (E5 es)],[.sl (E5 q.1)]]:Ae).getD i []=[.sl (E5 ev)]/\smE ev:=by
   have:i=0∨i=1:=by have:=Bg o;omega
   rcases this with rfl | rfl
   . exact ⟨raw,es,rfl,rfl,Sx⟩
   . exact ⟨v,q.1,rfl,rfl,S⟩
 have HP:(i:Int)<2:=Bg o;have FC:(0:Int)<=(i:Int):=AQ;have Q:=DG i AQ;have I:=Asc (prV s).1 (by have:=Bjm s;omega);have B:=Ad2 (Ad3 s);have H:=Acj (Ack s);have y:=Axs ev j;have z:=Anj (Aos ev j);have E:=Awy I;simp only[go_sem,o,Be,Tw,f,HP,FC];refine GJ ((B).Ew (id:=1000000) AV rfl Bc (λ b r a=>by rw[a.1];rfl)) ?_;rintro g r ⟨_,⟨rfl,rfl⟩,rfl⟩;simp only[go_sem,Be,Tw,f,HP,FC];refine GJ ((H).Ew (id:=1000000) AV rfl Bc (λ b r a=>by rw[a.1];rfl)) ?_;rintro g r ⟨_,⟨rfl,rfl⟩,rfl⟩;simp only[go_sem,Be,Tw,f,HP,FC];refine Cq ((y)) ?_;simp only[go_sem,Be,Tw,f,HP,FC];refine GJ ((z).Ew (id:=1000000) AV rfl Bc (λ b r a=>by rw[a.1];rfl)) ?_;rintro g r ⟨_,⟨rfl,rfl⟩,rfl⟩;simp only[go_sem,beq_self_eq_true];refine GJ ((E).Ew (id:=1000000) AV rfl Bc (λ b r a=>by rw[a.1];rfl)) ?_;rintro g r ⟨_,⟨rfl,rfl⟩,rfl⟩;simp only[go_sem,Q];refine R (i+1) _ AQ AQ (Wk.forget (by simp[ZF]))
end Go.Am
end
