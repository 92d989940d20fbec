/- Texts of this proof, what it rests on, merged: part D. -/
import Derived.Lib.ConvBytes
import Derived.Lib.OthersKept
import Derived.ScopeJumps
import Derived.Laws.IdiomStrings
import Derived.Lib.LaidTab
import Derived.Lib.ItoaNum
import Derived.Sort.Grow
import Derived.Deep.Draws
import Derived.Below
import Derived.LaidSub
import Derived.Test.YtlfbkkljgighkaaGreatDoorSkC
section
set_option linter.unusedVariables false
set_option linter.unusedSimpArgs false
namespace Go.Am
open Go Go.ChangeShapes Go.RowKit
def wtF(p:Field->Ax->Prop):List Field->Ax->Prop
 | [],cs=>cs=[]
 | f::r,cs=>∃a b,cs=a++b/\p f a/\wtF p r b
def wtP(P:AK):Nat->TypeId->Ax->Prop
 | 0,_,_=>False
 | n+1,t,cs=>match P.underlying t with
   | some .bool=>∃b,cs=[.bool b]
   | some (.int k)=>∃v,cs=[.int k v]/\(Lit.int k v).wf=true
   | some .string=>∃l,cs=[.str l]
   | some (.slice e)=>∃a,cs=[.sl a]/\∀y∈a,wtP P n e y
   | some (.struct g)=>wtF (λ f=>wtP P n f.type) g.toList cs
   | some (.array k e)=>∃a:Ag,cs=a.flatten/\a.length=k/\∀y∈a,wtP P n e y
   | _=>False
section
variable {H:Type} {enc:TypeId×Value->H} {P:AK} {w:AI} {spare:Nat->Bool} {held:Bool}
theorem Am1{p:Field->Ax->Prop}:∀(e:List Field) (a:List (DataW H×List MemPlace)),a.length=e.length->(∀(i:Nat) f x,e[i]?=some f->a[i]?=some x->p f (HZ x.1))->wtF p e (R0 (a.map (·.1)))
 | [],a,b,_=>by
   have:a=[]:=B0 b;subst this;rfl
 | f::r,a,b,h=>by
   cases a with
   | nil=>simp at b
   | cons x a=>exact ⟨HZ x.1,R0 (a.map (·.1)),rfl,h 0 f x rfl rfl,Am1 r a (by simpa using b) λ i g y j k=>h (i+1) g y (by simpa using j) (by simpa using k)⟩
theorem Ade:∀(a:List (DataW H×List MemPlace)),R0 (a.map (·.1))=(a.map λ x=>HZ x.1).flatten
 | []=>rfl
 | x::r=>by simp only[B4,R0,List.flatten_cons,Ade r]
theorem Bik:∀(m:Nat) (t:AG),Hv P m t=true->∀(fuel:Nat) (cs:At) (x:DataW H×List MemPlace),
   DataW.trod enc P w 0 spare held fuel t cs=some x->wtP P m t (HZ x.1):=by
 intro m
 induction m with
 | zero=>intro t h;simp[Hv] at h
 | succ m v=>
   intro t j fuel cs x h;simp only[Hv] at j;simp only[wtP];split at j
   . rename_i g;obtain ⟨b,rfl,rfl⟩:=DataW.trod_bool g h;rw[g];exact ⟨b,rfl⟩
   . rename_i k g;obtain ⟨n,rfl,rfl,R⟩:=DataW.trod_int g h;rw[g];exact ⟨n,rfl,R⟩
   . rename_i g;obtain ⟨s,rfl,rfl,_⟩:=DataW.trod_string g h;rw[g];exact ⟨_,rfl⟩
   . rename_i e g;simp only[Bz,BI] at j;obtain ⟨T,q⟩:=j;rw[g];rcases DataW.trod_slice g h with ⟨rfl,rfl⟩ | ⟨a,len,cap,elems,rest,n,rfl,rfl,rfl,hb,I,S,Q,Dr,_,_⟩
     . exact ⟨[],rfl,AT⟩
     . refine ⟨elems.map λ x=>HZ x.1,by simp only[HZ,Ahi],λ y r=>?_⟩;obtain ⟨z,u,rfl⟩:=BS.1 r;obtain ⟨i,p,rfl⟩:=Ch.1 u;have:=Dr i AQ;rw[Bp p] at this;obtain ⟨K,o,h2⟩:=Option.bind_eq_some_iff.1 this;exact v e q _ _ _ h2
   . rename_i N g;simp only[Bz,BI] at j;rw[g];obtain ⟨B,n,rfl,rfl,I,l,Dr⟩:=DataW.trod_struct g h;simp only[HZ];refine Am1 N.toList B (by simpa using l) λ i f x E hx=>?_;have o:=Dr i f (by simpa using E);rw[hx] at o;exact v f.type (BB.1 j.2 f (Bt E)) _ _ _ o
   . rename_i k e g;simp only[Bz,BI] at j;rw[g];obtain ⟨B,n,rfl,rfl,I,l,Dr⟩:=DataW.trod_array g h;refine ⟨B.map λ x=>HZ x.1,by simp only[HZ,Ade],by simpa using l,λ y r=>?_⟩;obtain ⟨z,u,rfl⟩:=BS.1 r;obtain ⟨i,p,rfl⟩:=Ch.1 u;have o:=Dr i AQ;rw[Bp p] at o;exact v e j.2 _ _ _ o
   . cases j
end
section
variable {P:AK} {n:Nat} {t:AG} {cs:Ax}
theorem Bml{k:IntKind}(a:P.underlying t=some (.int k))(h:wtP P n t cs):∃v,cs=[.int k v]/\(Lit.int k v).wf=true:=by
 cases n with
 | zero=>exact h.elim
 | succ n=>simpa only[wtP,a] using h
theorem Bqa{e:AG}(a:P.underlying t=some (.slice e))(h:wtP P n t cs):∃m es,cs=[.sl es]/\∀y∈es,wtP P m e y:=by
 cases n with
 | zero=>exact h.elim
 | succ n=>
   simp only[wtP,a] at h;exact ⟨n,h⟩
theorem Av6{α:Type}(enc:α->Ax):∀(es:Ag),(∀y∈es,∃x,y=enc x)->∃l:List α,es=l.map enc
 | [],_=>⟨[],rfl⟩
 | y::r,h=>by
   obtain ⟨x,hx⟩:=h y AT;obtain ⟨l,a⟩:=Av6 enc r λ z b=>h z (by simp[b]);exact ⟨x::l,by simp[hx,a]⟩
end
end Go.Am
namespace Go.Am
open Go
section
variable {P:AK} {ops rest:As} {k:Kt} {st:St} {o:Oper}
theorem Alr(h:Vu P o (O P true ops rest k) st):Af P true ops rest k o st .fail:=⟨rfl,h⟩
theorem Rel.By4{c:Ctx}{a:Act}{w w':AI}{F:Nat->Prop}{M:Nat->Mb}(f:Rel c st a w F M)(g:w'.os=w.os)(Xm:w'.tape=w.tape)(Aag:w'.output=w.output)
   (HK:w'.heap.size=w.heap.size+1) (hold:∀b,b<w.heap.size->w'.heap[b]?=w.heap[b]?):Rel c st a w' (λ b=>F b∨b=w.heap.size) M:=by
 have i:∀b,F b->w'.heap[b]?=w.heap[b]?:=λ b hb=>hold b (f.keep.Fl b hb);have j:=Ea.refl M (sg st.hp);refine ⟨λ t d m=>(f.env t d m).keep i (λ _ h=> .inl h) j,f.size,f.defers,⟨λ id x hx=>?_,f.heap.inj⟩,?_⟩
 . refine (f.heap.obj id x hx).keep i (λ _ h=> .inl h) j λ b DD=>?_;have Dv:=f.heap.lt ⟨id,x,hx,DD⟩;refine ⟨hold _ Dv,?_⟩;rintro (h | h)
   . exact f.heap.PH ⟨id,x,hx,DD⟩ h
   . omega
 . have e:=f.keep;refine ⟨g.trans e.os,Xm.trans e.tape,Aag.trans e.output,by have:=e.size;omega,λ b hb l=>?_,λ b hb=> .inl (e.F0 b hb),λ b hb=>?_,λ b hb=>?_,e.own,e.sgk,e.s0b⟩
   . rw[hold b (Nat.lt_of_lt_of_le hb e.size)];exact e.Ua b hb l
   . rcases hb with hb | rfl
     . exact e.Fn b hb
     . exact .inr (.inr e.size)
   . rcases hb with hb | rfl
     . have:=e.Fl b hb;omega
     . omega
theorem Bi7{s d e:AG}{x:AM}{V W Y:D}{R S T U E:Nat}{l:Ad}(K:o.op= .convert s d x)(N:Dz P s=some ⟨R,S,.string,V⟩)(H:Dz P d=some ⟨T,U,.slice e,W⟩)(I:Dz P e=some ⟨1,E,.int .u8,Y⟩)
   (hx:ev st x= .p (.str l)) (h:O P true ops rest k (st.put o.dst (.p (.sl (Gz l))))):Af P true ops rest k o st .fail:=by
 refine Alr λ c a w F M Q B=>?_;obtain ⟨_,Z,_,_,H3,_,t⟩:=De N;obtain ⟨_,u2,_,_,MN,_,u⟩:=De H;obtain ⟨_,u3,_,_,n,_,z⟩:=De I;simp only[TI.mk.injEq] at t u z;obtain rfl:=TK.of_string t.2.2.1.symm;obtain rfl:=TK.of_slice u.2.2.1.symm;obtain rfl:=TK.of_int z.2.2.1.symm;have m:=Di B x;rw[hx] at m;generalize r:a.eval x=v at m;cases m with | p m=>cases m with | str=>
 have ET:=Lib.run_convert_string_bytes (P:=P) w s d e ⟨l.toArray⟩ H3 MN n;have Ql:Rel c st a (Lib.bytesWorld w e ⟨l.toArray⟩) (λ b=>F b∨b=w.heap.size) M:=B.By4 rfl rfl rfl (Lib.bytesWorld_size _ _ _) (λ b hb=>Lib.bytesWorld_at_old _ _ _ b hb);unfold Oper.wp;have hex:(execOp a.eval o).run P w= .ok (.value (.slice (some ⟨w.heap.size,0,none⟩) (⟨l.toArray⟩:ByteArray).size (grownCap w (⟨l.toArray⟩:ByteArray).size 0 e))) (Lib.bytesWorld w e ⟨l.toArray⟩):=by
   simp only[execOp,K,r];simp[ET]
 rw[hex];refine ⟨_,_,_,h,Ql.put ?_ o.dst⟩;have hlen:(⟨l.toArray⟩:ByteArray).size=(Gz l).length:=by simp[Gz,Qb]
 rw[hlen];refine .p (.sl (Gz l) w.heap.size 0 _ 1 _ e _ (.inr rfl) (Lib.bytesWorld_at_new _ _ _) (by have:=grownCap_ge w (Gz l).length 0 e;exact this) (λ i y f=>?_) (λ i y j q f g=>?_) (λ i y j q f g=>?_))
 . simp only[Gz,BD] at f;cases hb:l[i]? with
   | none=>rw[hb] at f;cases f
   | some b=>rw[hb] at f;cases f;rfl
 . simp only[Gz,BD] at f;cases hb:l[i]? with
   | none=>rw[hb] at f;cases f
   | some b=>
     rw[hb] at f;cases f;have Dv:=(Bn.1 hb).1;cases j with
     | succ j=>simp at g
     | zero=>simp[Lib.bytesCells];omega
 . simp only[Gz,BD] at f;cases hb:l[i]? with
   | none=>rw[hb] at f;cases f
   | some b=>
     rw[hb] at f;cases f;have Dv:=(Bn.1 hb).1;cases j with
     | succ j=>simp at g
     | zero=>
       simp only[BE,Bo] at g;subst g;have:(Lib.bytesCells w e ⟨l.toArray⟩).getD (0+i*1+0) undef= .int .u8 b.toNat:=by
         rw[Bs];simp[Lib.bytesCells,Array.getElem?_append,Dv];have:=(Bn.1 hb).2;rw[this]
       rw[this];exact .int _ _
end
end Go.Am
namespace Go.Am
open Go
theorem Wk.seal{st}{t id}{ty}{s}{Bt9}{Ti}(E:get st.env t=some (.ptr id 0))(r:get st.hp id=some (.box (s.map .p) ty))(B:get Ti id=none)(u:Le st ⟨Bt9,Ti,st.n⟩):
   Wk st ⟨(t,.pe s)::Bt9,Ti,st.n⟩:=by
 intro c a w F M k;have KF:=k.forget u;obtain ⟨V3,row,_,Ek,HK,D4⟩:=k.heap.obj id _ r;have DD:Hn M st.hp (M id).Fm:=⟨id,_,r,rfl⟩;have m:KN st.hp Ti:=u.2.2.1;have y:=Ea.refl M (sg Ti);refine ⟨λ b=>F b∨b=(M id).Fm,M,⟨λ q d l=>?_,KF.size,KF.defers,⟨λ j o g=>?_,KF.heap.inj⟩,?_⟩⟩
 . rw[Dj] at l;split at l
   . rename_i e;subst e;cases l;have z:=k.env _ _ E;generalize a.tmps.getD t undef=v at z;cases z with
     | ptr _ _ _=>
       refine .pe s (M id).Fm 0 row _ (0,0) (.inr rfl) Ek (λ j x hx=>?_) (λ j x hx=>?_)
       . have:=(Bn.1 hx).1;simp at HK;omega
       . have:=(D4.1 j (.p x) (by simp[hx])).1;rw[B2];cases this with | p hp=>exact hp.keep (λ _ _=>rfl) (λ _ h=> .inl h)
   . exact (KF.env q d l).keep (λ _ _=>rfl) (λ _ h=> .inl h) y
 . refine (KF.heap.obj j o g).keep (λ _ _=>rfl) (λ _ h=> .inl h) y λ b i=>⟨rfl,?_⟩;rintro (h | h)
   . exact KF.heap.PH ⟨j,o,g,i⟩ h
   . have:=k.heap.inj j o id _ b (m.spec j o g) r i h;subst this;simp only at g;rw[B] at g;cases g
 . have f:=KF.keep;refine ⟨f.os,f.tape,f.output,f.size,f.Ua,λ b hb=> .inl (f.F0 b hb),λ b hb=>?_,λ b hb=>?_,f.own,f.sgk,f.s0b⟩
   . rcases hb with hb | rfl
     . exact f.Fn b hb
     . exact .inr (k.keep.own _ DD)
   . rcases hb with hb | rfl
     . exact f.Fl b hb
     . exact (Cg.1 Ek).1
section
variable {P:AK} {ops rest:As} {k:Kt} {st:St} {o:Oper}
end
end Go.Am
namespace Go.Am
open Go
theorem Wk.EP{st}{id j q sz}{cs}{ty}(e)(hb:get st.hp id=some (.box cs ty))(m:cs[j]?=some (.cl []))(s:get st.hp q=none)(I:0<sz):
   Wk st ⟨st.env,(q,.arr e sz [])::Dn st.hp id (.box (cs.set j (.ref q 0 0 0)) ty),st.n⟩:=by
 intro c a w F M H;obtain ⟨KF,y⟩:=H.Acg (e:=e) s I;have EG:id≠q:=λ h=>by subst h;rw[s] at hb;cases hb
 have g:get ((q,AO.arr e sz [])::st.hp) id=some (.box cs ty):=by rw[Dj,if_neg (CK EG)];exact hb
 have Dr:∀i,get ((q,AO.arr e sz [])::Dn st.hp id (.box (cs.set j (.ref q 0 0 0)) ty)) i=if i=id then some (.box (cs.set j (.ref q 0 0 0)) ty) else get ((q,AO.arr e sz [])::st.hp) i:=by
   intro i;simp only[Dj,DH];by_cases f:i=id
   . subst f;simp[CK EG]
   . by_cases o:q=i
     . subst o;simp[f]
     . simp[f,o]
 have Lz:=GB Dr g rfl;have Bdq:=KF.heap.obj id _ g;obtain ⟨V3,row,t,Ek,HK,D4⟩:=Bdq;refine ⟨F,I2 M q ⟨0,0,[]⟩,?_⟩;refine KF.change (st:=⟨st.env,(q,AO.arr e sz [])::st.hp,st.n⟩) Dr (λ _ _=>rfl) (by rw[Lz];exact Ea.refl _ _) rfl rfl rfl (Bk _) (λ _ _ _=>rfl) ?_ (λ b hb=> .inl ⟨_,g,hb⟩);refine ⟨V3,row,t,Ek,by simpa using HK,λ i d k=>?_,λ z B i l=>?_⟩;rotate_left
 . refine D4.2 z ?_ i ?_
   . obtain ⟨x,hx,r⟩:=Cf.1 B;rcases List.mem_or_eq_of_mem_set hx with E | rfl
     . exact Cf.2 ⟨x,E,r⟩
     . cases r
   . by_cases f:i=j
     . subst f;rw[CH (Bn.1 m).1] at l;cases l
     . rwa[List.getElem?_set_ne (CK f)] at l
 rw[Lz];by_cases f:i=j
 . subst f;have Dv:=(Bn.1 m).1;rw[CH Dv] at k;cases k;have h2:=D4.1 i _ m;refine ⟨?_,h2.2⟩;have p:=h2.1;generalize row.getD i undef=v at p;cases p with | cl _ u _ _=>exact y u
 . rw[List.getElem?_set_ne (CK f)] at k;exact D4.1 i d k
theorem Wk.pure{st}{t id sz}{e}{es}(o:get st.env t=some (.ref id 0 es.length es.length))(m:get st.hp id=some (.arr e sz es)):
   Wk st ⟨(t,.p (.sl es))::st.env,Dn st.hp id (.Oh sz es),st.n⟩:=by
 intro c a w F M g;have l:=g.env _ _ o;obtain ⟨x,f,F',⟨rfl,rfl⟩,Ql,q,r,hp⟩:=N9 g l (k:=λ x f=>x= .sl es/\f=Dn st.hp id (.Oh sz es)) (by simp[PG,m,froze]);refine ⟨F',M,⟨λ j d b=>?_,Ql.size,Ql.defers,Ql.heap,Ql.keep⟩⟩;rw[Dj] at b;split at b
 . rename_i i;subst i;cases b;exact .p hp
 . exact Ql.env j d b
attribute [go_sem] Aam
theorem PU{P}{l}{id}{p}{k}{st}(b:P.follows .mixedOrders=true)(a:RW l p=true)(hle:KN st.hp st.hp)(h:G P l st.hp p k st):
   X P (.region id l.toArray true) k st:=Yb st.hp b a hle h
attribute [go_sem] List.length_map
end Go.Am
namespace Go.Am
open Go
def jmp(P:AK)(c:Code)(Q:Exit->Act->World->Prop):Nat->Exit->Act->World->Prop
 | 0,.goto _,_,_=>False
 | n+1,.goto l,a,w=>∃rest,findLabel c l=some rest/\rest.wp P (jmp P c Q n) a w
 | _,.normal,a,w=>Q .normal a w
 | _,.exit id,a,w=>Q (.exit id) a w
 | _,.ret,a,w=>Q .ret a w
 | _,.panic b,a,w=>Q (.panic b) a w
 | _,.outgrown,a,w=>Q .outgrown a w
theorem Aj5{P}{a}{w}{Q:Exit->Act->World->Prop}{c}(n)(first:c.wp P (jmp P c Q n) a w):(Code.scope c).wp P Q a w:=by
 intro b k cs;have key:∀n (l:Code) a w,l.wp P (jmp P c Q n) a w->∃e j m,Q e j m/\Arrives P (lone (b.at a (.code l:: .inScope c::k)) cs w) b k cs e j m:=by
   intro n
   induction n with
   | zero=>
     intro l a w h;obtain ⟨e,g,i,f,Xy⟩:=h b (.inScope c::k) cs;cases e with
     | normal=>exact ⟨.normal,g,i,f,Steps.trans Xy (.one step_inScope)⟩
     | exit id=>exact ⟨.exit id,g,i,f,λ q o=>Xy q (by simp[exitTo,o])⟩
     | goto r=>exact f.elim
     | ret=>exact ⟨_,g,i,f,Xy⟩
     | panic t=>exact ⟨_,g,i,f,Xy⟩
     | outgrown=>exact ⟨_,g,i,f,Xy⟩
   | succ n y=>
     intro l a w h;obtain ⟨e,g,i,f,Xy⟩:=h b (.inScope c::k) cs;cases e with
     | normal=>exact ⟨.normal,g,i,f,Steps.trans Xy (.one step_inScope)⟩
     | exit id=>exact ⟨.exit id,g,i,f,λ q o=>Xy q (by simp[exitTo,o])⟩
     | goto r=>
       obtain ⟨rest,v,hx⟩:=f;have x:gotoIn r (.inScope c::k)=some (.code rest:: .inScope c::k):=by simp[gotoIn,v]
       obtain ⟨u,s,z,p,Bsf⟩:=y rest g i hx;exact ⟨u,s,z,p,.of_steps (Xy _ x) Bsf⟩
     | ret=>exact ⟨_,g,i,f,Xy⟩
     | panic t=>exact ⟨_,g,i,f,Xy⟩
     | outgrown=>exact ⟨_,g,i,f,Xy⟩
 obtain ⟨e,j,m,f,Xy⟩:=key n c a w first
 exact ⟨e,j,m,f,.of_steps (.one step_scope) Xy⟩
def scQ(P:AK)(x:Code)(k:Kt):Nat->Exit->St->Prop
 | 0,.goto _,_=>False
 | n+1,.goto l,a=>∃Lt rest,Wk a Lt/\findLabel x l=some rest/\wA P rest (scQ P x k n) Lt
 | _,.normal,a=>J P k .normal a
 | _,.exit id,a=>J P k (.exit id) a
 | _,.ret,a=>J P k .ret a
 | _,.panic b,a=>J P k (.panic b) a
 | _,.outgrown,a=>J P k .outgrown a
def Jm(P:AK)(x:Code)(k:Kt)(n l:Nat)(st:St):Prop:=scQ P x k n (.goto l) st
section
variable {P:AK} {st:St} {x:Code} {k:Kt}
theorem Aug{c:Ctx}:∀(n:Nat) (e:Exit) (a:Act) (w:AI),QC c (scQ P x k n) e a w->jmp P x (QC c (k.Ij P)) n e a w
 | 0,.goto _,_,_,⟨_,_,_,h,_⟩=>h.elim
 | n+1,.goto l,a,w,⟨st,F,M,⟨Lt,rest,g,b,hx⟩,f⟩=>by
   obtain ⟨F1,M1,KF⟩:=g c a w F M f;exact ⟨rest,b,Code.wp_mono (Aug n) (KR rest KF hx)⟩
 | 0,.normal,_,_,h=>h
 | 0,.exit _,_,_,h=>h
 | 0,.ret,_,_,h=>h
 | 0,.panic _,_,_,h=>h
 | 0,.outgrown,_,_,h=>h
 | _+1,.normal,_,_,h=>h
 | _+1,.exit _,_,_,h=>h
 | _+1,.ret,_,_,h=>h
 | _+1,.panic _,_,_,h=>h
 | _+1,.outgrown,_,_,h=>h
theorem Bki(n:Nat)(h:X P x (.user (scQ P x k n)) st):X P (.scope x) k st:=
 λ c a w F M b=>Aj5 n (Code.wp_mono (Aug n) (KR x b h))
theorem Bbe(n l:Nat):J P (.user (scQ P x k n)) (.goto l) st=Jm P x k n l st:=nd rfl
theorem Bhx(n:Nat):J P (.user (scQ P x k n)) .ret st=J P k .ret st:=by cases n<;>rfl
theorem Aqp{β:Type}(e:β->Nat)(S:β->St)(I:β->Prop)(μ:β->Nat)(N:Nat)
   (h0:∀n,(∀a st',I a->μ a<N->Wk st' (S a)->Jm P x k n (e a) st')->X P x (.user (scQ P x k n)) st)
   (i:∀b n,I b->(∀a st',I a->μ a<μ b->Wk st' (S a)->Jm P x k n (e a) st')->∃rest,findLabel x (e b)=some rest/\X P rest (.user (scQ P x k n)) (S b)):X P (.scope x) k st:=by
 have key:∀n b st',I b->μ b<n->Wk st' (S b)->Jm P x k n (e b) st':=by
   intro n
   induction n with
   | zero=>intro b _ _ h;exact (B6 _ h).elim
   | succ n j=>
     intro b st' hb l f;obtain ⟨rest,g,hx⟩:=i b n hb λ a Bxt YU Dv Rp=>j a Bxt YU AQ Rp;exact ⟨S b,rest,f,g,hx⟩
 exact Bki N (h0 N λ a st' YU Dv f=>key N a st' YU Dv f)
end
attribute [go_sem] Bbe Bhx
end Go.Am
namespace Go.Am
open Go
section
variable {P:AK} {ops rest:As} {k:Kt} {st:St} {o:Oper}
theorem Bpy{s d e:AG}{x:AM}{z0 z1 z2:D}{Y Z n2 n3 I:Nat}{l:Ad}{id:Nat}{t:AG}(U:o.op= .convert s d x)(V:Dz P s=some ⟨Y,Z,.slice e,z0⟩)(S:Dz P d=some ⟨n2,n3,.string,z1⟩)(T:Dz P e=some ⟨1,I,.int .u8,z2⟩)
   (hx:ev st x= .ref id 0 l.length l.length) (H:get st.hp id=some (.arr t 1 (Gz l))) (h:O P true ops rest k (st.put o.dst (.p (.str l)))):Af P true ops rest k o st .fail:=by
 refine Alr λ c a w F M Q m=>?_;obtain ⟨_,u1,_,_,H3,_,z⟩:=De V;obtain ⟨_,u2,_,_,MN,_,B⟩:=De S;obtain ⟨_,u3,_,_,b,_,E⟩:=De T;simp only[TI.mk.injEq] at z B E;obtain rfl:=TK.of_slice z.2.2.1.symm;obtain rfl:=TK.of_string B.2.2.1.symm;obtain rfl:=TK.of_int E.2.2.1.symm;have r:=Di m x;rw[hx] at r;generalize u:a.eval x=v at r;have hlen:(Gz l).length=l.length:=by simp[Gz]
 have ET:(convert s d v).run P w= .ok (.string ⟨l.toArray⟩) w:=by
   cases r with
   | ref _ _ _ _ sz n _ Lz hN W Ru=>
     have q:sg st.hp id=some (.arr 1 l.length):=by simp[sg,H,AO.sg,hlen]
     rw[q] at Lz;simp only[Bo,Sg.arr.injEq] at Lz;obtain ⟨rfl,rfl⟩:=Lz;obtain ⟨f,cap,rfl,h1,h2,h3,K⟩:=Ru rfl;obtain ⟨h5,h6,h7,h8,N⟩:=m.heap.obj id _ H;by_cases R:cap=0
     . have i:l=[]:=B0 AQ;subst i;cases f with
       | none=>
         rw[run_convert_bytes_string w s d e none _ cap H3 b MN];simp[Conv.bytesToString];rfl
       | some f=>exact run_convert_bytes_back w s d e f cap [] H3 b MN (λ j g=>by simp at g)
     . obtain rfl:=K.resolve_left R;obtain ⟨_,row,⟨fr,Ek,_⟩,HK,D4⟩:=N AQ;refine run_convert_bytes_back w s d e _ cap l H3 b MN λ j g=>?_;have hp:=D4 j [.int .u8 (l[j]).toNat] 0 (.int .u8 (l[j]).toNat) (by simp[Gz,g]) rfl;have Dv:j<row.size:=AQ;have Ad3:w.cell? ((⟨(M id).Fm,0*1,none⟩:Addr).add j)=row[j]?:=by
         rw[Addr.add_lit];simp[World.cell?,Ek]
       rw[Ad3];simp only[Nat.mul_one,B9] at hp;rw[Bs,BW Dv] at hp;rw[BW Dv];simp only[BP] at hp;generalize row[j]=y at hp;cases hp;rfl
 unfold Oper.wp;have hex:(execOp a.eval o).run P w= .ok (.value (.string ⟨l.toArray⟩)) w:=by
   simp only[execOp,U,u];simp[ET]
 rw[hex];exact ⟨_,_,_,h,m.put (.p (.str l)) o.dst⟩
end
end Go.Am
namespace Go.Am
open Go
theorem Lf(h e:Hp)(j:Nat):get (h++e) j=match get h j with | some o=>some o | none=>get e j:=by
 induction h with
 | nil=>rfl
 | cons x r a=>
   obtain ⟨k,o⟩:=x;simp only[Ce,Dj];split
   . rfl
   . exact a
theorem C3.Ev{P}{f}{args}{h}{R:Hp->D->Prop}{id g}{cs}(hc:C3 P f args h R)(hid:base<=id)(hn:get h id=none)
   (Boc:((E8 args++JF h).all λ i=>(get h i).isSome)=true) (Y:∀p r,R p r->get p id=none):
   C3 P f args (h++[(id,.Ev g cs)]) λ h' r=>∃p,R p r/\h'=p++[(id,.Ev g cs)]:=by
 intro vs w F M Qp Uh Xn hd;have Dr:∀j o,get h j=some o->get (h++[(id,AO.Ev g cs)]) j=some o:=λ j o a=>by rw[Lf,a]
 have I:get (h++[(id,AO.Ev g cs)]) id=some (.Ev g cs):=by rw[Lf,hn];simp[Dj]
 have Vl:∀i,i∈E8 args++JF h->∃o,get h i=some o:=λ i k=>Cj.1 (BB.1 Boc i k)
 let ρ:Nat->Option Nat:=λ i=>if (get h i).isSome then some i else none
 have hρ:∀i j,ρ i=some j->sg (h++[(id,AO.Ev g cs)]) i≠none->M j=M i/\sg h j=sg (h++[(id,AO.Ev g cs)]) i:=by
   intro i j E _;simp only[ρ] at E;split at E
   . rename_i K;simp only[Bo] at E;subst E;obtain ⟨o,a⟩:=Cj.1 K;exact ⟨rfl,by simp[sg,a,Dr _ _ a]⟩
   . cases E
 have Bs5:∀i,(∃o,get h i=some o)->ρ i=some i:=λ i ⟨o,a⟩=>by simp[ρ,a]
 have Bsi:HR F w M h:=by
   constructor
   . intro i o a;have:=(Qp.obj i o (Dr i o a)).GA (M':=M) hρ;rwa[AO.VM (λ j E=>Bs5 j (Vl j (List.mem_append_right _ (YR a E))))] at this
   . intro i o Q U b a Ud DD FB;exact Qp.inj i o Q U b (Dr _ _ a) (Dr _ _ Ud) DD FB
 have Tk:Nk F w M (sg h) args vs.toList:=by
   refine ⟨hd.1,λ i d k=>?_⟩;have:=(hd.2 i d k).GA (M':=M) hρ;rwa[VM (λ j E=>Bs5 j (Vl j (CC _ ?_)))] at this;clear this;have JN:∀(l:Ai) (i:Nat),l[i]?=some d->j∈E8 l:=by
     intro l
     induction l with
     | nil=>intro i k;simp at k
     | cons x r ih=>
       intro i k;simp only[E8,BC];cases i with
       | zero=>simp only[BE,Bo] at k;subst k;exact .inl E
       | succ i=>exact .inr (ih i (by simpa using k))
   exact JN args i k
 have Bdn:∀b,Hn M (h++[(id,AO.Ev g cs)]) b↔Hn M h b:=by
   intro b;constructor
   . rintro ⟨i,o,a,DD⟩;rw[Lf] at a;cases m:get h i with
     | some o2=>rw[m] at a;cases a;exact ⟨i,_,m,DD⟩
     | none=>
       rw[m] at a;simp only[Dj] at a;split at a
       . cases a;exact DD.elim
       . simp[get] at a
   . rintro ⟨i,o,a,DD⟩;exact ⟨i,o,Dr _ _ a,DD⟩
 refine (hc vs w F M Bsi Uh (λ i k=>Xn i (by
   unfold sg at k ⊢;cases m:get h i with
   | none=>rw[m] at k;exact (k rfl).elim
   | some o=>rw[Dr _ _ m];simp)) Tk).mono ?_
 rintro e w' ⟨v,p,r,F',M',rfl,hR,XA,Boi,y⟩;have ZV:=Y p r hR;have Bdu:∀b,F b->w'.heap[b]?=w.heap[b]?:=λ b hb=>y.Ua b (Uh b hb) (λ a=>Bsi.PH a hb)
 let M2:Nat->Mb:=λ i=>if i=id then M id else M' i
 have z:∀i,i≠id->M2 i=M' i:=λ i k=>by simp[M2,k]
 have EG:∀i o,get p i=some o->i≠id:=λ i o a e=>by subst e;rw[ZV] at a;cases a
 have Bdx:∀j o,get p j=some o->get (p++[(id,AO.Ev g cs)]) j=some o:=λ j o a=>by rw[Lf,a]
 have Bz7:get (p++[(id,AO.Ev g cs)]) id=some (.Ev g cs):=by rw[Lf,ZV];simp[Dj]
 have Auu:∀j o,get (p++[(id,AO.Ev g cs)]) j=some o->get p j=some o∨(j=id/\o= .Ev g cs):=by
   intro j o a;rw[Lf] at a;cases m:get p j with
   | some o2=>rw[m] at a;exact .inl a
   | none=>
     rw[m] at a;simp only[Dj] at a;split at a
     . rename_i e;cases a;exact .inr ⟨e.symm,rfl⟩
     . simp[get] at a
 have UI:∀i s,sg p i=some s->sg (p++[(id,AO.Ev g cs)]) i=some s/\M2 i=M' i:=by
   intro i s K;unfold sg at K ⊢;cases m:get p i with
   | none=>rw[m] at K;cases K
   | some o=>rw[m] at K;rw[Bdx _ _ m];exact ⟨K,z i (EG i o m)⟩
 have Brq:Ea M' M2 (sg p) (sg (p++[(id,AO.Ev g cs)])):=
   ⟨λ i k=>⟨(UI i _ k).1,by rw[(UI i _ k).2]⟩,λ i H n k=>⟨n,(UI i _ k).1,Bk _,λ _=>(UI i _ k).2⟩,λ i H n T k=>⟨n,T,(UI i _ k).1,Bk _,Bk _,λ _=>by rw[(UI i _ k).2];exact ⟨rfl,rfl⟩,λ _=>by rw[(UI i _ k).2]⟩⟩
 refine ⟨v,p++[(id,.Ev g cs)],r,F',M2,rfl,⟨p,hR,rfl⟩,⟨λ j o a=>?_,λ i o Q U b a Ud DD FB=>?_⟩,Boi.keep (λ _ _=>rfl) (λ _ h=>h) Brq,?_⟩
 . rcases Auu j o a with h2 | ⟨rfl,rfl⟩
   . have u:=XA.obj j o h2;rw[z j (EG j o h2)];exact u.keep (λ _ _=>rfl) (λ _ h=>h) Brq (λ b DD=>⟨rfl,XA.PH ⟨j,o,h2,DD⟩⟩)
   . obtain ⟨N,row,t,fr,h5,h7,h6⟩:=Qp.obj j _ I;exact ⟨y.F0 _ N,row,t,fr,by rw[Bdu _ N];exact h5,h7,λ q c hq=>(h6 q c hq).keep Bdu y.F0⟩
 . rcases Auu i o a with h2 | ⟨rfl,rfl⟩
   . rcases Auu Q U Ud with u | ⟨rfl,rfl⟩
     . rw[z i (EG i o h2)] at DD;rw[z Q (EG Q U u)] at FB;exact XA.inj i o Q U b h2 u DD FB
     . exact FB.elim
   . exact DD.elim
 . refine ⟨y.os,y.tape,y.output,y.size,λ b hb hO=>y.Ua b hb (λ h2=>hO ((Bdn b).2 h2)),y.F0,λ b hb=>?_,y.Fl,?_,?_,Xn⟩
   . rcases y.Fn b hb with h2 | h2 | h2
     . exact .inl h2
     . exact .inr (.inl ((Bdn b).2 h2))
     . exact .inr (.inr h2)
   . rintro b ⟨i,o,a,DD⟩;rcases Auu i o a with h2 | ⟨rfl,rfl⟩
     . rw[z i (EG i o h2)] at DD;rcases y.own _ ⟨i,o,h2,DD⟩ with u | u
       . exact .inl ((Bdn _).2 u)
       . exact .inr u
     . exact DD.elim
   . have K9:=y.sgk;refine ⟨λ i k=>?_,λ i H n k=>?_,λ i H n T k=>?_⟩
     . by_cases e:i=id
       . subst e;exact ⟨by simp[sg,Bz7,AO.sg],by simp[M2]⟩
       . have H8:sg (h++[(id,AO.Ev g cs)]) i=some .box:=k;have B:sg h i=some .box:=by
           clear k;unfold sg at H8 ⊢;rw[Lf] at H8;cases m:get h i with
           | some o=>rw[m] at H8;exact H8
           | none=>rw[m] at H8;simp[Dj,get,CK e] at H8
         obtain ⟨h2,u⟩:=K9.1 i B;exact ⟨(UI i _ h2).1,by rw[(UI i _ h2).2];exact u⟩
     . have e:i≠id:=by rintro rfl;simp[sg,I,AO.sg] at k
       have H8:sg (h++[(id,AO.Ev g cs)]) i=some (.arr H n):=k;have B:sg h i=some (.arr H n):=by
         clear k;unfold sg at H8 ⊢;rw[Lf] at H8;cases m:get h i with
         | some o=>rw[m] at H8;exact H8
         | none=>rw[m] at H8;simp[Dj,get,CK e] at H8
       obtain ⟨Z,h2,u,N⟩:=K9.2.1 i H n B;exact ⟨Z,(UI i _ h2).1,u,λ S=>by rw[(UI i _ h2).2];exact N S⟩
     . have e:i≠id:=by rintro rfl;simp[sg,I,AO.sg] at k
       have H8:sg (h++[(id,AO.Ev g cs)]) i=some (.Fc H n T):=k;have B:sg h i=some (.Fc H n T):=by
         clear k;unfold sg at H8 ⊢;rw[Lf] at H8;cases m:get h i with
         | some o=>rw[m] at H8;exact H8
         | none=>rw[m] at H8;simp[Dj,get,CK e] at H8
       obtain ⟨Z,k',h2,u,V,N,W⟩:=K9.2.2 i H n T B;exact ⟨Z,k',(UI i _ h2).1,u,V,λ S=>by rw[(UI i _ h2).2];exact N S,λ S=>by rw[(UI i _ h2).2];exact W S⟩
end Go.Am
namespace Go.Am
open Go Go.ChangeShapes Go.RowKit
section
variable {P:AK} {w:AI} {F:Nat->Prop} {M:Nat->Mb} {s:Nat->Option Sg} {m:Mb}
def VC(k:IntKind)(a:Aa):Ax:=a.map λ z=> .int k z
theorem Bc7{name:String}{k:IntKind}{b:Aa}{g:Nat}(l:P.globalNamed name=some g)(f:F g)(h:Lib.TabIs P w name k b):UN F w M s m (.Ev g (VC k b)):=by
 unfold Lib.TabIs World.var? at h;rw[l] at h;simp only[Bd] at h;split at h
 . rename_i cs t e i;cases h;refine ⟨f,_,t,e,i,by simp[VC],λ j c a=>?_⟩;simp only[VC,BD,Cu] at a;obtain ⟨z,n,rfl⟩:=a;rw[Bs];simp only[CM,BD,n,Ci,BP];exact .int k z
 . cases h
theorem Be8{name:String}{k:IntKind}{e:Aa}{g:Nat}(l:P.globalNamed name=some g)(h:UN F w M s m (.Ev g (VC k e))):Lib.TabIs P w name k e:=by
 obtain ⟨_,row,t,n,f,h2,i⟩:=h;unfold Lib.TabIs World.var?;rw[l];simp only[Bd,f,Bo];apply Array.ext_getElem?;intro j;by_cases a:j<e.length
 . have b:=i j (.int k e[j]) (by simp[VC,a]);have Dv:j<row.size:=by rw[h2];simpa [VC] using a
   rw[Bs,BW Dv] at b;rw[BW Dv];simp only[BP] at b;simp only[CM,BD,Bp a,Ci];generalize row[j]=y at b;cases b;rfl
 . have Dv:¬j<row.size:=by rw[h2];simpa [VC] using a
   rw[Array.getElem?_eq_none AQ];simp only[CM,BD,List.getElem?_eq_none (Nat.le_of_not_lt a),Option.map_none]
theorem Auc{name:String}{k:IntKind}{a:Aa}{g f:Nat}{args:Ai}{out:Ad}(t:P.globalNamed name=some g)(Lc:Enters P f)
   (l:∀(vs:Array Value) w F M,Nk F w M (sg [(base,AO.Ev g (VC k a))]) args vs.toList->Lib.TabIs P w name k a->Calls P f vs w λ e w'=>e= .returned (.string ⟨out.toArray⟩)/\∃n os,w'=Sort.grow (w.drewN n) os):
   C3 P f args [(base,.Ev g (VC k a))] λ h r=>h=[(base,.Ev g (VC k a))]/\r= .p (.str out):=by
 intro vs w F M Qp Uh Xn q;have u:=Qp.obj base (.Ev g (VC k a)) rfl;refine .inl ⟨Lc vs w,(l vs w F M q (Be8 t u)).mono ?_⟩;rintro e w' ⟨rfl,n,os,rfl⟩;have hold:∀b,b<w.heap.size->(Sort.grow (w.drewN n) os).heap[b]?=w.heap[b]?:=λ b hb=>by
   simp[Sort.grow,World.drewN,Array.getElem?_append,hb]
 have Xr:∀b,¬Hn M [(base,AO.Ev g (VC k a))] b:=by
   rintro b ⟨i,o,j,h2⟩;rw[Dj] at j;split at j
   . cases j;exact h2
   . simp[get] at j
 refine ⟨_,_,_,F,M,rfl,⟨rfl,rfl⟩,Qp.keep (λ b hb=>hold b (Uh b hb)) (λ b hb=>(Xr b hb).elim),.p (.str out),⟨rfl,rfl,rfl,?_,λ b hb _=>hold b hb,λ _ h=>h,λ _ h=> .inl h,?_,λ b hb=>(Xr b hb).elim,Ea.refl _ _,Xn⟩⟩
 . simp[Sort.grow,World.drewN]
 . intro b hb;have:=Uh b hb;simp[Sort.grow,World.drewN];omega
theorem Aqw{g f:Nat}(hg:P.globalNamed "internal/strconv.uint64pow10" =some g)(Lc:Enters P f)
   (hc:∀(n:Int) (w:AI),-9223372036854775808<=n->n<=9223372036854775807->Lib.TabIs P w "internal/strconv.uint64pow10" .u64 Lib.pow10Tab->
     Calls P f #[.int .i64 n] w λ e w'=>e= .returned (.string ⟨(Lib.itoa n).toArray⟩)/\∃k os,w'=Sort.grow (w.drewN k) os)
   (n:Int) (h0:-9223372036854775808<=n) (h1:n<=9223372036854775807):
   C3 P f [.p (.int .i64 n)] [(base,.Ev g (VC .u64 Lib.pow10Tab))] λ h r=>h=[(base,.Ev g (VC .u64 Lib.pow10Tab))]/\r= .p (.str (Lib.itoa n)):=by
 refine Auc hg Lc λ vs w F M hd ht=>?_;have hl:=hd.1;have h2:=hd.2 0 _ rfl;obtain ⟨v,rfl⟩:∃v,vs=#[v]:=by
   obtain ⟨l⟩:=vs
   match l,hl with
   | [v],_=>exact ⟨v,rfl⟩
 have e:v= .int .i64 n:=by
   simp only[BO] at h2;cases h2 with | p h=>cases h;rfl
 subst e;exact hc n w h0 h1 ht
end
section
variable {H:Type} {enc:TypeId×Value->H} {P:AK} {W:AI}
end
end Go.Am
namespace Go.Am
open Go Go.ChangeShapes Go.RowKit
section
variable {P:AK}
theorem Yh{f:AH}{args:Ai}{h:Hp}{out:Pd}(Lc:Enters P f)
   (g:∀(vs:Array Value) w F M,HR F w M h->(∀b,F b->b<w.heap.size)->Nk F w M (sg h) args vs.toList->
     Calls P f vs w λ e w'=>∃v,e= .returned v/\PR (λ _=>False) w' out v/\Below w.heap.size w w'):
   C3 P f args h λ h' r=>h'=h/\r= .p out:=by
 intro vs w F M Qp Uh Xn i;refine .inl ⟨Lc vs w,(g vs w F M Qp Uh i).mono ?_⟩;rintro e w' ⟨v,rfl,j,hb⟩;have hold:∀b,b<w.heap.size->w'.heap[b]?=w.heap[b]?:=hb.block;refine ⟨_,_,_,F,M,rfl,⟨rfl,rfl⟩,Qp.keep (λ b hb=>hold b (Uh b hb)) (λ b hb=>hold b (Qp.lt hb)),.p (j.keep (λ _ h=>h.elim) (λ _ h=>h.elim)),⟨hb.os,hb.tape,hb.output,hb.size,λ b hb _=>hold b hb,λ _ h=>h,λ _ h=> .inl h,?_,λ b hb=> .inl hb,Ea.refl _ _,Xn⟩⟩;intro b a;exact Nat.lt_of_lt_of_le (Uh b a) hb.size
theorem Bgn{F:Nat->Prop}{w:AI}{M:Nat->Mb}{s:Nat->Option Sg}{l:Ad}{v:AJ}(h:DR F w M s (.p (.str l)) v):v= .string ⟨l.toArray⟩:=by
 cases h with | p h=>cases h;rfl
theorem Av4{F:Nat->Prop}{w:AI}{M:Nat->Mb}{s:Nat->Option Sg}{x y:D}{vs:Array Value}(h:Nk F w M s [x,y] vs.toList):∃a b,vs=#[a,b]/\DR F w M s x a/\DR F w M s y b:=by
 have e:=h.1;obtain ⟨a,b,rfl⟩:∃a b,vs=#[a,b]:=by
   obtain ⟨l⟩:=vs
   match l,e with
   | [a,b],_=>exact ⟨a,b,rfl⟩
 exact ⟨a,b,rfl,h.2 0 _ rfl,h.2 1 _ rfl⟩
theorem Bnc{w:AI}{name:String}{k:IntKind}{e:Aa}{g:Nat}(b:P.globalNamed name=some g)(h:Lib.TabIs P w name k e):g<w.heap.size:=by
 unfold Lib.TabIs World.var? at h;rw[b] at h;simp only[Bd] at h;split at h
 . rename_i cs t f a;exact (Cg.1 a).1
 . cases h
theorem Amq{W:AI}{name:String}{k:IntKind}{j:Aa}{l:List (String×DataW Unit)}{keep:String×DataW Unit->Bool}{g:Nat}{t e:AG}{n:Nat}(h:laidMetH P l W)(q:l.filter keep=[(name,Lib.tabData k j)])
   (p:(Lib.tabData k j:DataW Unit).handleName?=none)
   (o:P.globalNamed name=some g) (i:(P.globals[g]?).map (·.type)=some t) (r:P.underlying t=some (.array n e)) (m:P.underlying e=some (.int k)) (b:P.cellsOf e=1) (f:P.cellsOf t=n):Lib.TabIs P W name k j:=by
 have a:=h.filter keep;rw[q] at a;unfold laidMetH at a;simp only[Co,p,Option.isSome_none,BY,Cy,List.filter_nil] at a;exact Lib.tabIs_of_head o i r m b f a
end
end Go.Am
namespace Go.Am
open Go Go.ChangeShapes Go.RowKit
def Bhn(P:AK)(t:AG):Bool:=match P.underlying t with
 | some (.struct _)=>true
 | some (.array _ _)=>true
 | _=>false
def Ag9{H:Type}(P:AK)(t:AG)(d:DataW H):D:=if Bhn P t then .agg ((HZ d).map .p) else Bhe d
section
variable {H:Type} {enc:TypeId×Value->H} {P:AK} {W:AI}
theorem Att{t:AG}{v:AJ}{d:DataW H}{m:List MemPlace}{sp:Nat->Bool}{M:Nat->Mb}{s:Nat->Option Sg}(g:Hv P 30 t=true){k:Nat}(Ru:Value.okWide P W .any k t v)
   (h:DataW.Trod enc P W 0 sp true t v d m):DR (λ b=>b<W.heap.size) W M s (Ag9 P t d) v:=by
 unfold Ag9;split
 . rename_i a;obtain ⟨fuel,l⟩:=h;have f:=Bl4 (F:=λ b=>b<W.heap.size) (λ _ h=>h) 30 t g _ _ _ l;obtain ⟨cs,rfl⟩:∃cs,v= .agg cs:=by
     unfold Bhn at a;unfold Value.okWide Cell.okWide Cell.ok at Ru;cases j:P.underlying t with
     | none=>rw[j] at a;cases a
     | some u=>
       rw[j] at a Ru;cases u<;>simp at a;all_goals
         cases v with
         | agg cs=>exact ⟨cs,rfl⟩
         | _=>simp at Ru
   refine .agg _ cs (by simpa [Value.cells] using f.1.symm) λ i c e=>?_;rw[BD] at e;cases hx:(HZ d)[i]? with
   | none=>rw[hx] at e;cases e
   | some x=>
     rw[hx] at e;cases e;have:=f.2 i x hx;simp only[Value.cells] at this;rw[Bu,Cx] at this;rw[Bs];exact .p this
 . rename_i a;refine Bb3 ?_ Ru h;unfold Bn8;unfold Bhn at a;rw[g,Bool.true_and];split<;>simp_all
theorem x0{k:Nat}{sp:Nat->Bool}{M:Nat->Mb}{s:Nat->Option Sg}:∀{a:List TypeId} {vs:At} {ds:List (DataW H)} {f:List MemPlace},(a.all (Hv P 30))=true->
   (∀(j:Nat) t v,a[j]?=some t->vs[j]?=some v->Value.okWide P W .any k t v)->DataW.TrodAll enc P W 0 sp true a vs ds f->Nk (λ b=>b<W.heap.size) W M s (List.zipWith (Ag9 P) a ds) vs
 | [],vs,ds,f,_,_,h=>by
   obtain ⟨rfl,rfl,_⟩:=trodAll_nil h;exact ⟨rfl,λ i d r=>by simp at r⟩
 | t::a,vs,ds,f,e,Ru,h=>by
   obtain ⟨v,u,d,Yn,p,q,rfl,rfl,_,l,h2⟩:=trodAll_cons h;simp only[List.all_cons,Bz] at e;have m:=Att (M:=M) (s:=s) e.1 (Ru 0 t v rfl rfl) l;have g:=x0 (M:=M) (s:=s) e.2 (λ j t v n o=>Ru (j+1) t v (by simpa using n) (by simpa using o)) h2;refine ⟨by simp only[List.zipWith_cons_cons,Br,g.1],λ i x hx=>?_⟩;cases i with
   | zero=>simp only[List.zipWith_cons_cons,List.getElem?_cons_zero,Option.some.injEq] at hx;subst hx;simpa [List.getD] using m
   | succ i=>simp only[List.zipWith_cons_cons,List.getElem?_cons_succ] at hx;simpa [List.getD] using g.2 i x hx
theorem Aes{W':AI}{sp:Nat->Bool}(i:∀b,b<W.heap.size->W'.heap[b]?=W.heap[b]?):∀{f:List TypeId} {vs:At} {ds:List (DataW H)} {e:List MemPlace},(f.all (Hv P 30))=true->
   DataW.TrodAll enc P W 0 (λ _=>true) true f vs ds e->(∀p∈e,sp p.block=true)->(∀p∈e,p.block<W.heap.size)->DataW.TrodAll enc P W' 0 sp true f vs ds e
 | [],vs,ds,e,_,h,_,_=>by
   obtain ⟨rfl,rfl,rfl⟩:=trodAll_nil h;exact trodAll_mk0
 | t::f,vs,ds,e,g,h,QU,Dv=>by
   obtain ⟨v,m,d,Yn,p,q,rfl,rfl,rfl,⟨n,j⟩,h2⟩:=trodAll_cons h;simp only[List.all_cons,Bz] at g;have k:=Bn7 30 t g.1 n _ _ j (sp:=sp) (λ p a=>QU p (by simp[a]));have l:=DataW.trod_carry n t _ _ k (w':=W') (λ p a=>by
     have:=i p.block (Dv p (by simp[a]));cases p with
     | cell b o=>simp only[MemPlace.block] at this;simp[World.sameAt,World.cell?,this]
     | map b=>exact this)
   exact trodAll_cons_mk ⟨n,l⟩ (Aes i g.2 h2 (λ p a=>QU p (by simp[a])) (λ p a=>Dv p (by simp[a])))
theorem Amn{held:Bool}{W:AI}{sp:Nat->Bool}:∀{a:List TypeId} {vs:At} {ds:List (DataW H)} {g:List MemPlace},(a.all (Hv P 30))=true->DataW.TrodAll enc P W 0 sp held a vs ds g->
   ds.length=a.length/\∀(i:Nat) t d,a[i]?=some t->ds[i]?=some d->wtP P 30 t (HZ d)
 | [],vs,ds,g,_,h=>by
   obtain ⟨rfl,rfl,_⟩:=trodAll_nil h;exact ⟨rfl,λ i t d h=>by simp at h⟩
 | t::a,vs,ds,g,f,h=>by
   obtain ⟨v,r,d,Yn,p,q,rfl,rfl,_,⟨n,k⟩,h2⟩:=trodAll_cons h;simp only[List.all_cons,Bz] at f;obtain ⟨l,m⟩:=Amn f.2 h2;refine ⟨by simp[l],λ i o j e b=>?_⟩;cases i with
   | zero=>simp only[BE,Bo] at e b;subst e b;exact Bik 30 _ f.1 _ _ _ k
   | succ i=>simp only[List.getElem?_cons_succ] at e b;exact m i o j e b
theorem get_mem{α:Type}:∀{h:List (Nat×α)} {i:Nat} {o:α},get h i=some o->(i,o)∈h
 | [],i,o,h=>by simp[get] at h
 | (k,x)::r,i,o,h=>by
   simp only[get] at h;split at h
   . rename_i e;cases h;subst e;simp
   . exact List.mem_cons_of_mem _ (get_mem h)
theorem Asb{N:Nat}{f:AH}{fn:Func}{s:ChangeSpec}{args:Array Value}{ds gs:List (DataW H)}{before:List MemPlace}{K:AG}(Bc6:List (Nat×List Pd))
   (Rr:∀(j:Nat) t v,fn.params[j]?=some t->args[j]?=some v->Value.okWide P W .any N t v)
   (B:DataW.Whole enc P fn.params.toList s.vars false W args.toList ds gs before) (I:s.vars=[])
   (E:fn.params.toList.all (Hv P 30)=true) (OU:fn.resultTypes=#[K]) (w:P.underlying K=some .bool)
   (u:s.fn H ds={results:=[.lit (.bool true)],args:=ds})
   (Lc:Enters P f) (l:∀x∈Bc6,∀(M:Nat->Mb) s m,UN (λ b=>b<W.heap.size) W M s m (.Ev x.1 x.2)) (h:Hp) (T:h=Bc6.mapIdx λ i x=>(base+i,AO.Ev x.1 x.2))
   (R:C3 P f (List.zipWith (Ag9 P) fn.params.toList ds) h λ Q r=>r= .p (.bool true)):
   Calls P f args W λ e W'=>∃v,e= .returned v/\s.post enc P fn false true false false W args v W':=by
 have g:=B;obtain ⟨p,q,y,z,rfl,S,U⟩:=B;rw[I] at z;obtain ⟨rfl,rfl⟩:=trodVars_none z;have Dv:∀x∈p,x.block<W.heap.size:=λ x hx=>g.lt x (by simp[hx]);have Dr:∀i o,get h i=some o->base<=i/\∃x∈Bc6,o= .Ev x.1 x.2:=by
   intro i o a;have h2:=get_mem a;rw[T,List.mem_mapIdx] at h2;obtain ⟨j,V,e⟩:=h2;simp only[Cs] at e;obtain ⟨rfl,rfl⟩:=e;exact ⟨Nat.le_add_right _ _,_,Cm _,rfl⟩
 have Xr:∀(M:Nat->Mb) b,¬Hn M h b:=by
   rintro M b ⟨i,o,a,h2⟩;obtain ⟨_,x,_,rfl⟩:=Dr i o a;exact h2
 have Bdk:=(R args W (λ b=>b<W.heap.size) (λ _=>⟨0,0,[]⟩) ⟨λ id o h=>by obtain ⟨_,x,hx,rfl⟩:=Dr id o h;exact l x hx _ _ _,λ id o Wv Y b h _ h2=>by obtain ⟨_,x,_,rfl⟩:=Dr id o h;exact h2.elim⟩ (λ _ h=>h)
   (λ id a=>by
     unfold sg at a;cases h2:get h id with
     | none=>rw[h2] at a;exact (a rfl).elim
     | some o=>exact (Dr id o h2).1)
   (x0 E (λ j t v a h2=>Rr j t v (by simpa using a) (by simpa using h2)) y))
 have V4:=Bdk.resolve_right (λ ⟨v,Z,a,_⟩=>by rw[Lc] at a;cases a);refine V4.2.mono ?_;rintro e W' ⟨v,Q,r,F',M',rfl,rfl,_,k,n⟩;obtain rfl:v= .bool true:=by cases k with | p k=>cases k;rfl
 have hold:∀b,b<W.heap.size->W'.heap[b]?=W.heap[b]?:=λ b hb=>n.Ua b hb (Xr _ b);refine ⟨_,rfl,ds,[],p++[],[],p,[],by simpa using g,?_,?_,?_,Anq n.os n.output hold _,λ h=>by cases h⟩
 . rw[List.append_nil,u,OU];exact trodAll_cons_mk (shut_bool w _) trodAll_mk0
 . rw[List.append_nil,u];exact Aes hold E y (λ x hx=>by simpa using Dv x hx) Dv
 . rw[List.append_nil,u,I];rfl
end
end Go.Am
namespace Go.Am
open Go
section
variable {P:AK} {c:Ctx} {st:St} {a:Act} {w w':AI} {F:Nat->Prop} {M:Nat->Mb} {s:Nat->Option Sg}
def Fz(F:Nat->Prop)(w w':AI):Prop:=∀b row t f,F b->w.heap[b]?=some (.cells row t f)->∃e,w'.heap[b]?=some (.cells row t e)
theorem PR.fz{x:Pd}{v:AJ}(h:PR F w x v)(p:Fz F w w'):PR F w' x v:=by
 induction h with
 | int k n=>exact .int k n
 | ifi t k n=>exact .ifi t k n
 | ifs t l=>exact .ifs t l
 | bool b=>exact .bool b
 | str l=>exact .str l
 | sl0 a cap=>exact .sl0 a cap
 | sl f b off cap u row t g hb m j q o y r=>
   obtain ⟨e,i⟩:=p b row t g hb m;exact .sl f b off cap u row t e hb i j q o r
theorem DR.fz{d:D}{v:AJ}(h:DR F w M s d v)(e:Fz F w w'):DR F w' M s d v:=by
 induction h with
 | p h=>exact .p (h.fz e)
 | agg cs z u _ y=>exact .agg cs z u y
 | Em cs z u _ y=>exact .Em cs z u y
 | cl B a h R=>exact .cl B a (h.fz e) R
 | cz B a h=>exact .cz B a (h.fz e)
 | ref id off len N l n v o g r h2=>exact .ref id off len N l n v o g r h2
 | ptr id off o=>exact .ptr id off o
 | pe cs b off row t I hb Q H S=>
   obtain ⟨E,K⟩:=e b row t I hb Q;exact .pe cs b off row t E hb K H (λ j x hx=>(S j x hx).fz e)
 | ea id i c N l n v o g r h2=>exact .ea id i c N l n v o g r h2
 | fn f cap z u _ y=>exact .fn f cap z u y
 | np=>exact .np
 | mv id o=>exact .mv id o
 | E3 id n l m k v e g r h=>exact .E3 id n l m k v e g r h
 | R9 id i n l m k b e g H h=>exact .R9 id i n l m k b e g H h
 | nr id i len q l m k v e g r h=>exact .nr id i len q l m k v e g r h
 | WE v h=>exact .WE v h
 | bad v=>exact .bad v
theorem UN.fz{m:Mb}{o:AO}(h:UN F w M s m o)(u:Fz F w w')(v:∀b,¬F b->w'.heap[b]?=w.heap[b]?):UN F w' M s m o:=by
 cases o with
 | box cs ty=>
   obtain ⟨f,row,t,h2,n,p⟩:=h;exact ⟨f,row,t,by rw[v _ f];exact h2,n,λ j d U=>⟨(p.1 j d U).1.fz u,(p.1 j d U).2⟩,p.2⟩
 | arr t T N=>
   obtain ⟨f,h2,LC,n,p⟩:=h;refine ⟨f,h2,LC,n,λ z=>?_⟩;obtain ⟨q,row,H,I,K⟩:=p z;exact ⟨q,row,H.keep (v _ q),I,λ i e j x B E=>(K i e j x B E).fz u⟩
 | Oh T N=>
   obtain ⟨f,h2,n,p⟩:=h;refine ⟨f,h2,n,λ z=>?_⟩;obtain ⟨q,row,t,Q,H,I,K⟩:=p z;obtain ⟨y,S⟩:=u _ row t Q q H;exact ⟨q,row,t,y,S,I,λ i e j x B E=>(K i e j x B E).fz u⟩
 | iter l pos=>
   obtain ⟨f,h2⟩:=h;exact ⟨f,by rw[v _ f];exact h2⟩
 | Ev g cs=>
   obtain ⟨f,row,t,Q,h2,p,n⟩:=h;obtain ⟨y,S⟩:=u _ row t Q f h2;exact ⟨f,row,t,y,S,p,λ j x hx=>(n j x hx).fz u⟩
 | Ij o=>exact o.Bol h u v
 | mp l=>
   obtain ⟨f,⟨N,clock,h2,n⟩,p⟩:=h;exact ⟨f,⟨N,clock,by rw[v _ f];exact h2,n⟩,p⟩
 | Fc t e T k rows hole=>
   refine ⟨h.pos,h.xl,h.le,h.max,λ z=>?_,λ i r V f h2 n=>?_,h.Awr,h.dis,h.out⟩
   . obtain ⟨f,row,h2,n⟩:=h.outer z;exact ⟨f,row,by rw[v _ f];exact h2,n⟩
   . obtain ⟨W,Y,R,Z,g4⟩:=h.rows i r V f h2 n;refine ⟨W,Y,R,Z,λ z=>?_⟩;obtain ⟨q,row,H,I,K⟩:=g4 z;exact ⟨q,row,H.keep (v _ q),I,λ i e j x B E=>(K i e j x B E).fz u⟩
 | Yo t T N i c d=>
   obtain ⟨row,f,h2,n,p,q⟩:=h.row;exact ⟨h.pos,h.le,h.max,h.wid,h.at_,h.nF,row,f.keep (v _ h.nF),h2,λ i e j x B E EG=>(n i e j x B E EG).fz u,p.fz u,q⟩
theorem Rel.fz(f:Rel c st a w F M)(j:Fz F w w')(k:∀b,¬F b->w'.heap[b]?=w.heap[b]?)(g:w'.os=w.os)(Xm:w'.tape=w.tape)(Aag:w'.output=w.output)(La:w'.heap.size=w.heap.size)
   (hold:∀b,b<c.w0.heap.size->¬c.O0 b->w'.heap[b]?=w.heap[b]?):Rel c st a w' F M:=by
 have e:=f.keep;exact ⟨λ t d m=>(f.env t d m).fz j,f.size,f.defers,⟨λ id o l=>(f.heap.obj id o l).fz j k,f.heap.inj⟩,
   ⟨g.trans e.os,Xm.trans e.tape,Aag.trans e.output,by rw[La];exact e.size,λ b hb i=>(hold b hb i).trans (e.Ua b hb i),e.F0,e.Fn,λ b hb=>by rw[La];exact e.Fl b hb,e.own,e.sgk,e.s0b⟩⟩
theorem Z2(w:AI)(g n b:Nat):(w.freeze ⟨g,0,none⟩ n).heap[b]?=if b=g/\n≠0 then (w.heap[b]?).map (λ | .cells c elem (i,f)=> .cells c elem (if i==f then (0,0+n) else (min i 0,max f (0+n))) | o=>o) else w.heap[b]?:=by
 unfold World.freeze;by_cases e:n=0
 . rw[if_pos e,if_neg (by simp[e])]
 . rw[if_neg e];simp only[Array.getElem?_modify];by_cases hb:g=b
   . subst hb;rw[if_pos rfl,if_pos ⟨rfl,e⟩];cases w.heap[g]? with
     | none=>rfl
     | some o=>cases o<;>rfl
   . rw[if_neg hb,if_neg (λ h=>hb h.1.symm)]
theorem Aay{F:Nat->Prop}{w:AI}{M:Nat->Mb}{s:Nat->Option Sg}{x:D}{vs:Array Value}(h:Nk F w M s [x] vs.toList):∃v,vs=#[v]/\DR F w M s x v:=by
 have b:=h.1;obtain ⟨v,rfl⟩:∃v,vs=#[v]:=by
   obtain ⟨l⟩:=vs
   match l,b with
   | [v],_=>exact ⟨v,rfl⟩
 exact ⟨v,rfl,h.2 0 _ rfl⟩
theorem Aef{id off:Nat}{v:AJ}(h:DR F w M s (.ptr id off) v):v= .pointer (some ⟨(M id).Fm,off,none⟩):=by cases h;rfl
theorem Aar{row:Array Value}(h:row.size=2):∃p v,row=#[p,v]:=by
 obtain ⟨l⟩:=row
 match l,h with
 | [p,v],_=>exact ⟨p,v,rfl⟩
theorem Aqv{f:AH}{args:Ai}{h:Hp}{r:D}(Lc:Enters P f)(b:∀(vs:Array Value) w F M,HR F w M h->Nk F w M (sg h) args vs.toList->∃v,DR F w M (sg h) r v/\Calls P f vs w λ e w'=>e= .returned v/\w'=w):
   C3 P f args h λ h' j=>h'=h/\j=r:=by
 intro vs w F M Qp Uh Xn g;obtain ⟨v,i,PV⟩:=b vs w F M Qp g;refine .inl ⟨Lc vs w,PV.mono ?_⟩;rintro e w' ⟨rfl,rfl⟩;exact ⟨v,h,r,F,M,rfl,⟨rfl,rfl⟩,Qp,i,⟨rfl,rfl,rfl,Bk _,λ _ _ _=>rfl,λ _ h=>h,λ _ h=> .inl h,Uh,λ _ h=> .inl h,Ea.refl _ _,Xn⟩⟩
theorem Wt{f:AH}{h:Hp}{x:D}{T:AG}(Lc:Enters P f)(l:get h base=some (.box [.ptr base 0,x] T))
   (k:∀(b:Nat) (w:AI),w.cell? ⟨b,0,none⟩=some (.pointer (some ⟨b,0,none⟩))->Calls P f #[.pointer (some ⟨b,0,none⟩)] w λ e w'=>e= .returned (.tuple #[])/\w'=w):
   C3 P f [.ptr base 0] h λ h' r=>h'=h/\r= .Em []:=by
 refine Aqv Lc λ n w F M Qp g=>⟨.tuple #[],.Em [] #[] rfl (λ i d g=>by simp at g),?_⟩;obtain ⟨v,rfl,m⟩:=Aay g;rw[Aef m];refine k _ _ ?_;obtain ⟨_,row,t,Ek,HK,D4,_⟩:=Qp.obj base _ l;obtain ⟨p,q,rfl⟩:=Aar HK;have j:=(D4 0 _ rfl).1;have:=Aef j;simp only[World.cell?,Ek]
 simpa using this
theorem UP{f:AH}{x:D}{T:AG}(Lc:Enters P f)(o:T≠0)
   (y:∀(b:Nat) (w:AI),w.cell? ⟨b,0,none⟩=some (.pointer none)->w.shape? b=some (T,2)->w.frozen? ⟨b,0,none⟩=false->Calls P f #[.pointer (some ⟨b,0,none⟩)] w λ e w'=>e= .returned (.tuple #[])/\w'=w.setCell ⟨b,0,none⟩ (.pointer (some ⟨b,0,none⟩))):
   C3 P f [.ptr base 0] [(base,.box [.np,.cl []] T)] λ h' r=>h'=[(base,.box [.ptr base 0,.cl []] T)]/\r= .Em []:=by
 intro vs w F M Qp Uh Xn g;obtain ⟨v,rfl,B⟩:=Aay g;rw[Aef B];have u:get [(base,AO.box [.np,.cl []] T)] base=some (.box [.np,.cl []] T):=rfl;obtain ⟨V3,row,t,Ek,HK,D4,hx⟩:=Qp.obj base _ u;obtain ⟨p,q,rfl⟩:=Aar HK;rw[show W8 T t=T by simp[W8,o]] at Ek;have m:=(D4 0 _ rfl).1;have z:p= .pointer none:=by
   have:(#[p,q]:Array Value).getD 0 undef=p:=rfl;rw[this] at m;cases m;rfl
 subst z;refine .inl ⟨Lc _ w,(y _ w ?_ ?_ ?_).mono ?_⟩
 . simp[World.cell?,Ek]
 . simp[World.shape?,Ek]
 . simp[World.frozen?,Ek]
 rintro e w' ⟨rfl,rfl⟩;have Aaf:w.setCell ⟨(M base).Fm,0,none⟩ (.pointer (some ⟨(M base).Fm,0,none⟩))=w.setRow (M base).Fm #[.pointer (some ⟨(M base).Fm,0,none⟩),q]:=by
   unfold World.setCell World.setRow
   congr 1
   apply Array.ext_getElem?;intro j;simp only[Array.getElem?_modify];by_cases k:(M base).Fm=j
   . subst k;rw[if_pos rfl,if_pos rfl,Ek];rfl
   . rw[if_neg k,if_neg k]
 rw[Aaf];have l:=Rel.start (args:=[]) (vs:=#[]) (n:=0) Qp Uh Xn ⟨rfl,λ i d g=>by simp at g⟩ (BQ _);obtain ⟨E,Ly,KF⟩:=l.Ams (P:=P) (id:=base) (off:=0) (cs:=[.ptr base 0]) (vs:=[.pointer (some ⟨(M base).Fm,0,none⟩)]) u ⟨rfl,λ i d g=>by
   cases i with
   | zero=>simp only[BE,Bo] at g;subst g;exact .ptr base 0 rfl
   | succ i=>simp at g⟩ rfl AT
 have ET:=run_storeCells_at P (M base).Fm 0 T [.pointer (some ⟨(M base).Fm,0,none⟩)] 0 #[.pointer none,q] w Ek AT (by simp[Value.oneCell']);simp only[B9] at ET;rw[ET] at Ly;cases Ly;refine ⟨_,_,.Em [],F,M,rfl,⟨?_,rfl⟩,KF.heap,.Em [] #[] rfl (λ i d g=>by simp at g),KF.keep⟩;cases T with
 | zero=>exact (o rfl).elim
 | succ T=>simp[Dn,Qj,D.Afk]
theorem Af2{f:AH}{e T:AG}{l:Ad}{o:D}(Lc:Enters P f)(hl:l≠[])
   (hc:∀(b g n cap:Nat) (p:AJ) (cur:Array Value) (T:AG) (w:AI) (u:Nat×Nat),w.heap[b]?=some (.cells #[p,.slice (some ⟨g,0,none⟩) n cap] T (0,0))->n=l.length->w.heap[g]?=some (.cells cur e u)->n<=cap->cap<=maxLen->cur.size=cap->
     (∀(j:Nat) (x:UInt8),l[j]?=some x->cur[j]?=some (Value.int .u8 x.toNat))->Calls P f #[.pointer (some ⟨b,0,none⟩)] w λ e w'=>e= .returned (.string ⟨l.toArray⟩)/\w'=w.drew.freeze ⟨g,0,none⟩ l.length):
   C3 P f [.ptr base 0] [(base,.box [o,.ref (base+1) 0 l.length l.length] T),(base+1,.arr e 1 (Gz l))]
     λ h' r=>h'=[(base,.box [o,.ref (base+1) 0 l.length l.length] T),(base+1,.Oh 1 (Gz l))]/\r= .p (.str l):=by
 intro vs w F M Qp Uh Xn Q;obtain ⟨v,rfl,hv⟩:=Aay Q;rw[Aef hv];have z:l.length≠0:=by simpa using hl
 have R:(Gz l).length=l.length:=by simp[Gz]
 have S:get [(base,AO.box [o,.ref (base+1) 0 l.length l.length] T),(base+1,.arr e 1 (Gz l))] base=some (.box [o,.ref (base+1) 0 l.length l.length] T):=rfl;have Ww:get [(base,AO.box [o,.ref (base+1) 0 l.length l.length] T),(base+1,.arr e 1 (Gz l))] (base+1)=some (.arr e 1 (Gz l)):=rfl;obtain ⟨V3,row,t,Ek,HK,D4,_⟩:=Qp.obj base _ S;obtain ⟨p,q,rfl⟩:=Aar HK;obtain ⟨_,h2,W,_,h5⟩:=Qp.obj (base+1) _ Ww;have I:=W;have Y:=(D4 1 _ rfl).1;have e1:(#[p,q]:Array Value).getD 1 undef=q:=rfl;rw[e1] at Y;obtain ⟨ad,cap,rfl,h7,Z,K,XB⟩:Xd (M (base+1)) 1 l.length 0 l.length q:=by
   cases Y with
   | ref _ _ _ _ sz n _ V hN a1 Ru=>
     have Vk:sg [(base,AO.box [o,.ref (base+1) 0 l.length l.length] T),(base+1,.arr e 1 (Gz l))] (base+1)=some (.arr 1 l.length):=by rw[sg,Ww];simp[AO.sg,R]
     rw[Vk] at V;simp only[Bo,Sg.arr.injEq] at V;obtain ⟨rfl,rfl⟩:=V;exact Ru rfl
 have Qn:cap≠0:=λ H=>z (Nat.le_zero.1 (H ▸ Z));obtain rfl:=XB.resolve_left Qn;have Bsd:(M (base+1)).cap≠0:=λ H=>Qn ((B2 cap).symm.trans (K.trans H));clear h7 W;obtain ⟨a0,cur,⟨E,Bzd,_⟩,N,ZW⟩:=h5 Bsd;rw[Nat.zero_mul] at Ek;refine .inl ⟨Lc _ w,(hc _ _ _ _ _ cur _ w E Ek rfl Bzd Z (by have:=(B2 cap).symm.trans K;rw[this];exact I) (by have:=(B2 cap).symm.trans K;rw[N,this,Nat.mul_one]) ?_).mono ?_⟩
 . intro j x hx;have Dv:=(Bn.1 hx).1;have k:=ZW j [.int .u8 x.toNat] 0 (.int .u8 x.toNat) (by simp[Gz,hx]) rfl;have Sb:j<cur.size:=AQ;simp only[Nat.mul_one,B9] at k;rw[Bs,BW Sb] at k;rw[BW Sb];simp only[BP] at k;generalize cur[j]=y at k;cases k;rfl
 rintro e2 w' ⟨rfl,rfl⟩;have U:=Rel.start (args:=[]) (vs:=#[]) (n:=0) Qp Uh Xn ⟨rfl,λ i d Q=>by simp at Q⟩ (BQ _);have KF:=U.freeze Ww;have JE:=KF.drew;have DD:Hn M [(base,AO.box [o,.ref (base+1) 0 l.length l.length] T),(base+1,.arr e 1 (Gz l))] (M (base+1)).Fm:=⟨base+1,_,Ww,by show (M (base+1)).cap≠0;omega,rfl⟩;have Bdw:∀b,b≠(M (base+1)).Fm->(w.drew.freeze ⟨(M (base+1)).Fm,0,none⟩ l.length).heap[b]?=w.heap[b]?:=λ b hb=>by
   rw[Z2,if_neg (λ h=>hb h.1)];rfl
 have B:=JE.fz (w':=w.drew.freeze ⟨(M (base+1)).Fm,0,none⟩ l.length) (λ b row t u hF hb=>by
     by_cases m:b=(M (base+1)).Fm
     . subst m;rw[Z2,if_pos ⟨rfl,z⟩];have YU:w.drew.heap[(M (base+1)).Fm]?=some (.cells row t u):=hb;rw[YU];obtain ⟨lo,hi⟩:=u;exact ⟨_,rfl⟩
     . exact ⟨u,by rw[Bdw b m];exact hb⟩) (λ b hF=>by
     by_cases m:b=(M (base+1)).Fm
     . exact (hF (.inr ⟨AQ,m⟩)).elim
     . exact Bdw b m) (by unfold World.freeze;split<;>rfl) (by unfold World.freeze;split<;>rfl) (by unfold World.freeze;split<;>rfl) (by unfold World.freeze;split<;>simp<;>rfl)
   (λ b hb hO=>by
     by_cases m:b=(M (base+1)).Fm
     . subst m;exact (hO DD).elim
     . exact Bdw b m)
 refine ⟨_,_,.p (.str l),_,M,rfl,⟨?_,rfl⟩,B.heap,.p (.str l),B.keep⟩;simp[froze,Ww,Dn]
theorem Ws{f:AH}{T:AG}(Lc:Enters P f)(k:T≠0)
   (l:∀(b:Nat) (p:AJ) (T:AG) (w:AI),w.heap[b]?=some (.cells #[p,.slice none 0 0] T (0,0))->Calls P f #[.pointer (some ⟨b,0,none⟩)] w λ e w'=>e= .returned (.string ⟨#[]⟩)/\w'=w.drew):
   C3 P f [.ptr base 0] [(base,.box [.np,.cl []] T)] λ h' r=>h'=[(base,.box [.np,.cl []] T)]/\r= .p (.str []):=by
 intro vs w F M Qp Uh Xn g;obtain ⟨v,rfl,u⟩:=Aay g;rw[Aef u];have m:get [(base,AO.box [.np,.cl []] T)] base=some (.box [.np,.cl []] T):=rfl;obtain ⟨V3,row,t,Ek,HK,D4,hx⟩:=Qp.obj base _ m;obtain ⟨p,q,rfl⟩:=Aar HK;have o:q= .slice none 0 0:=hx k rfl 1 rfl;subst o;refine .inl ⟨Lc _ w,(l _ _ _ w Ek).mono ?_⟩;rintro e w' ⟨rfl,rfl⟩;have j:=Rel.start (args:=[]) (vs:=#[]) (n:=0) Qp Uh Xn ⟨rfl,λ i d g=>by simp at g⟩ (BQ _);have KF:=j.drew;exact ⟨_,_,.p (.str []),F,M,rfl,⟨rfl,rfl⟩,KF.heap,.p (.str []),KF.keep⟩
end
end Go.Am
namespace Go.Am
open Go
section
variable {P:AK} {ops rest:As} {k:Kt} {st:St} {o:Oper}
end
def mpS(m:List (List UInt8×Int)):AE:=m.map λ p=>(.str p.1,.int .i64 p.2)
def Bcl(m:List (List UInt8×Int))(k:Ad)(v:Int):List (List UInt8×Int):=match m with
 | []=>[(k,v)]
 | p::r=>if p.1=k then (k,v)::r else p::Bcl r k v
theorem Aka:mpS []=[]:=rfl
def mpB(m:List (Int×Bool)):AE:=m.map λ p=>(.int .i64 p.1,.bool p.2)
theorem Akb:mpB []=[]:=rfl
attribute [go_sem] Xj VU KK.fit Pd.flat
end Go.Am
namespace Go.Am
open Go
def Bls(r:D):Prop:=r= .Em []∨∃y,r= .p y
theorem Bls.dr{F:Nat->Prop}{w}{M M'}{s f}{r}{v}(h:Bls r)(a:DR F w M s r v):DR F w M' f r v:=by
 rcases h with rfl | ⟨y,rfl⟩
 . cases a with | Em _ g e j=>exact .Em [] g e (λ i c b=>by simp at b)
 . cases a with | p hx=>exact .p hx
end Go.Am
namespace Go.Am
open Go
section
variable {P:AK} {c:Ctx} {st:St} {a:Act} {w:AI} {F:Nat->Prop} {M:Nat->Mb}
theorem Rel.Ang(p:Rel c st a w F M){q sz:Nat}{e e2:AG}(o:get st.hp q=none)(HK:0<sz):
   Rel c {st with hp:=(q,.Fc e e2 sz 0 [] none)::st.hp} a w F (I2 M q ⟨0,0,[]⟩)/\∀f,DR F w (I2 M q ⟨0,0,[]⟩) (sg ((q,.Fc e e2 sz 0 [] none)::st.hp)) (.E3 q 0) (.slice f 0 0):=by
 have Dr:=Rw st.hp q (.Fc e e2 sz 0 [] none);have k:∀j,j≠q->I2 M q ⟨0,0,[]⟩ j=M j:=λ j n=>by simp[I2,n]
 have Mo:I2 M q ⟨0,0,[]⟩ q=⟨0,0,[]⟩:=by simp[I2]
 have K9:=Je Dr k o;have Xr:∀b,¬GK ⟨0,0,[]⟩ b:=λ b h=>by
   rcases h with ⟨h,_⟩ | ⟨i,g,m,_⟩
   . exact h rfl
   . simp at m
 refine ⟨p.change Dr k K9 rfl rfl rfl (Bk _) (λ b hb _=>rfl) ?_ (λ b h=>?_),λ f=>?_⟩
 . rw[Mo];exact ⟨HK,rfl,AT,AT,λ h=>(h rfl).elim,λ i r g h=>by simp at h,λ i g h=>(by cases h),λ i j l s h=>by simp at h,λ i l h=>by simp at h⟩
 . rw[Mo] at h;exact (Xr b h).elim
 . exact .E3 q 0 sz 0 0 _ (by rw[Ee Dr];simp[AO.sg]) (Bk _) ⟨_,_,rfl,.inl rfl⟩ (λ _=>⟨f,0,rfl,AQ,AQ,by rw[Mo],.inl rfl⟩)
end
end Go.Am
namespace Go.Am
open Go
section
variable {P:AK} {ops rest:As} {k:Kt} {st:St} {o:Oper}
theorem Bq0(j:Ez o.op=none)(h:mOp P st (o.dst.getD 0) o.op λ d h'=>O P true ops rest k (({st with hp:=h'}:St).put o.dst d)):Af P true ops rest k o st .fail:=by
 refine Alr λ g a w F M Q f=>?_;obtain ⟨d,h',v,l,F',M',e,Ql,i,b,ET⟩:=JA f h;unfold Oper.wp;rcases ET with ET | ⟨rfl,ET⟩
 . rw[ET];exact ⟨_,F',M',e,Ql.put b o.dst⟩
 . rw[ET];exact ⟨_,F',M',e,Ql.put b o.dst⟩
theorem Bi8{t e e2:AG}{x:AM}{n g i:Nat}{p:D}(f:o.op= .buildSlice t 1 #[(0,x)])(m:Dz P t=some ⟨n,g,.slice e,p⟩)(b:Dz P e=some ⟨1,i,.slice e2,.cl []⟩)
   (hx:ev st x= .cl []) (l:get st.hp (o.dst.getD 0)=none)
   (h:O P true ops rest k (({st with hp:=(o.dst.getD 0,.arr e 1 [[.sl []]])::st.hp}:St).put o.dst (.ref (o.dst.getD 0) 0 1 1))):Af P true ops rest k o st .fail:=by
 refine Bq0 (by rw[f];rfl) ?_;rw[f];have a:FM st (.buildSlice t 1 #[(0,x)])=none:=by
   cases j:Acn t<;>simp[FM,hx,j]
 simp only[mOp,a,Awn,m,b,B4,List.map_nil,hx];exact ⟨AQ,AQ,by simpa [J2,D.cells,D.one,Lx,PG,chunk,l] using h⟩
end
theorem Wk.Bj4{st}{id j q sz}{cs}{ty}(e e2)(hb:get st.hp id=some (.box cs ty))(m:cs[j]?=some (.cl []))(r:get st.hp q=none)(H:0<sz):
   Wk st ⟨st.env,(q,.Fc e e2 sz 0 [] none)::Dn st.hp id (.box (cs.set j (.E3 q 0)) ty),st.n⟩:=by
 intro c a w F M E;obtain ⟨KF,u⟩:=E.Ang (e:=e) (e2:=e2) r H;have EG:id≠q:=λ h=>by subst h;rw[r] at hb;cases hb
 have g:get ((q,AO.Fc e e2 sz 0 [] none)::st.hp) id=some (.box cs ty):=by rw[Dj,if_neg (CK EG)];exact hb
 have Dr:∀i,get ((q,AO.Fc e e2 sz 0 [] none)::Dn st.hp id (.box (cs.set j (.E3 q 0)) ty)) i=if i=id then some (.box (cs.set j (.E3 q 0)) ty) else get ((q,AO.Fc e e2 sz 0 [] none)::st.hp) i:=by
   intro i;simp only[Dj,DH];by_cases f:i=id
   . subst f;simp[CK EG]
   . by_cases e2:q=i
     . subst e2;simp[f]
     . simp[f,e2]
 have Lz:=GB Dr g rfl;have Bdq:=KF.heap.obj id _ g;obtain ⟨V3,row,t,Ek,HK,D4⟩:=Bdq;refine ⟨F,I2 M q ⟨0,0,[]⟩,?_⟩;refine KF.change (st:=⟨st.env,(q,AO.Fc e e2 sz 0 [] none)::st.hp,st.n⟩) Dr (λ _ _=>rfl) (by rw[Lz];exact Ea.refl _ _) rfl rfl rfl (Bk _) (λ _ _ _=>rfl) ?_ (λ b hb=> .inl ⟨_,g,hb⟩);refine ⟨V3,row,t,Ek,by simpa using HK,λ i d k=>?_,λ y z i l=>?_⟩;rotate_left
 . refine D4.2 y ?_ i ?_
   . obtain ⟨x,hx,p⟩:=Cf.1 z;rcases List.mem_or_eq_of_mem_set hx with B | rfl
     . exact Cf.2 ⟨x,B,p⟩
     . cases p
   . by_cases f:i=j
     . subst f;rw[CH (Bn.1 m).1] at l;cases l
     . rwa[List.getElem?_set_ne (CK f)] at l
 rw[Lz];by_cases f:i=j
 . subst f;have Dv:=(Bn.1 m).1;rw[CH Dv] at k;cases k;have h2:=D4.1 i _ m;refine ⟨?_,h2.2⟩;have o:=h2.1;generalize row.getD i undef=v at o;cases o with | cl _ s _ _=>exact u s
 . rw[List.getElem?_set_ne (CK f)] at k;exact D4.1 i d k
end Go.Am
namespace Go.Am
open Go
theorem C3.seal{P}{f}{args}{h}{R R':Hp->D->Prop}(k:C3 P f args h R)(hR:∀h' r,R h' r->HH h' r λ d h2=>R8 (h.map (·.1)) h2 d R'):C3 P f args h R':=by
 intro q w F M Qp Uh Xn l;refine (k q w F M Qp Uh Xn l).mono ?_;rintro e s ⟨v,h',r,F',M',rfl,n,XA,Ym,m⟩;have Akl:Rel ⟨w,F,Hn M h,M,sg h⟩ ⟨[],h',0⟩ ⟨#[],[]⟩ s F' M':=⟨λ t d o=>by simp[get] at o,rfl,rfl,XA,m⟩;obtain ⟨d,h2,F2,Sc,Xp,_,_,J9⟩:=RG r Akl Ym (hR h' r n);obtain ⟨a,p,M2,b,g,i,j⟩:=N6 Xp rfl (λ _=>Iff.rfl) J9 Sc;exact ⟨v,a,p,F2,M2,rfl,b,g,i,j⟩
end Go.Am
end
section
set_option linter.unusedVariables false
set_option linter.unusedSimpArgs false
namespace Go.Am
open Go
def Vb(sz n:Nat):Bpd where
 sg:= .arr sz n
 holds:=λ _ _ _=>True
 JM:=λ _ _=>False
 keep:=λ _ _ _ _=>trivial
 PH:=λ _ h=>h.elim
 lt:=λ _ h=>h.elim
 Bol:=λ _ _ _=>trivial
section
variable {c:Ctx} {st:St} {a:Act} {w:AI} {F:Nat->Prop} {M:Nat->Mb}
theorem Rel.move(E:Rel c st a w F M){q g k sz:Nat}{e:AG}{es:Ag}(Q:get st.hp q=some (.arr e sz es))(r:k<=es.length)(H:get st.hp g=none):
   Rel c ⟨st.env,(g,.arr e sz (es.take k))::Dn st.hp q (.Ij (Vb sz (es.length+1))),st.n⟩ a w F (I2 M g (M q))/\
     ∀v,DR F w M (sg st.hp) (.ref q 0 k es.length) v->DR F w (I2 M g (M q)) (sg ((g,.arr e sz (es.take k))::Dn st.hp q (.Ij (Vb sz (es.length+1))))) (.ref g 0 k k) v:=by
 have EG:g≠q:=λ h=>by subst h;rw[Q] at H;cases H
 have Dr:∀i,get ((g,AO.arr e sz (es.take k))::Dn st.hp q (.Ij (Vb sz (es.length+1)))) i=if i=g then some (.arr e sz (es.take k)) else if i=q then some (.Ij (Vb sz (es.length+1))) else get st.hp i:=by
   intro i;simp only[Dj,DH];by_cases B:g=i
   . subst B;simp
   . rw[if_neg B,if_neg (CK B)]
 have u:∀i,i≠g->I2 M g (M q) i=M i:=λ i f=>by simp[I2,f]
 have Mo:I2 M g (M q) g=M q:=by simp[I2]
 have hlen:(es.take k).length=k:=AW;have Bo0:∀i,i≠g->i≠q->sg ((g,AO.arr e sz (es.take k))::Dn st.hp q (.Ij (Vb sz (es.length+1)))) i=sg st.hp i:=λ i m h2=>by
   simp[sg,Dr,m,h2]
 have Afq:sg st.hp q=some (.arr sz es.length):=by simp[sg,Q,AO.sg]
 have Brr:sg ((g,AO.arr e sz (es.take k))::Dn st.hp q (.Ij (Vb sz (es.length+1)))) q=some (.arr sz (es.length+1)):=by
   unfold sg;rw[Dr,if_neg (CK EG),if_pos rfl];rfl
 have YP:sg ((g,AO.arr e sz (es.take k))::Dn st.hp q (.Ij (Vb sz (es.length+1)))) g=some (.arr sz k):=by
   unfold sg;rw[Dr,if_pos rfl];simp[AO.sg,r]
 have Bo2:sg st.hp g=none:=by simp[sg,H]
 have LA:Ea M (I2 M g (M q)) (sg st.hp) (sg ((g,AO.arr e sz (es.take k))::Dn st.hp q (.Ij (Vb sz (es.length+1))))):=by
   refine ⟨λ i f=>?_,λ i s n f=>?_,λ i s n kk f=>?_⟩
   . have m:i≠g:=λ h=>by rw[h,Bo2] at f;cases f
     have h2:i≠q:=λ h=>by rw[h,Afq] at f;cases f
     rw[Bo0 i m h2,u i m];exact ⟨f,rfl⟩
   . have m:i≠g:=λ h=>by rw[h,Bo2] at f;cases f
     by_cases h2:i=q
     . subst h2;rw[Afq] at f;cases f;exact ⟨es.length+1,Brr,AQ,λ h=>AQ⟩
     . rw[Bo0 i m h2,u i m];exact ⟨n,f,Bk _,λ _=>rfl⟩
   . have m:i≠g:=λ h=>by rw[h,Bo2] at f;cases f
     have h2:i≠q:=λ h=>by rw[h,Afq] at f;cases f
     rw[Bo0 i m h2,u i m];exact ⟨n,kk,f,Bk _,Bk _,λ _=>⟨rfl,rfl⟩,λ _=>rfl⟩
 have hF:∀b,F b->w.heap[b]?=w.heap[b]?:=λ _ _=>rfl;have Bdm:∀i o b,get ((g,AO.arr e sz (es.take k))::Dn st.hp q (.Ij (Vb sz (es.length+1)))) i=some o->o.JM (I2 M g (M q) i) b->
     ∃R o0,get st.hp R=some o0/\o0.JM (M R) b/\(i=g->R=q)/\(i≠g->R=i/\i≠q):=by
   intro i o b f z;rw[Dr] at f;by_cases m:i=g
   . subst m;rw[if_pos rfl] at f;cases f;rw[Mo] at z;exact ⟨q,_,Q,z,λ _=>rfl,λ h=>(h rfl).elim⟩
   . rw[if_neg m] at f;by_cases h2:i=q
     . subst h2;rw[if_pos rfl] at f;cases f;exact z.elim
     . rw[if_neg h2] at f;rw[u i m] at z;exact ⟨i,o,f,z,λ h=>(m h).elim,λ _=>⟨rfl,h2⟩⟩
 refine ⟨⟨λ t d ht=>(E.env t d ht).keep hF (λ _ h=>h) LA,E.size,E.defers,⟨λ i o f=>?_,λ i o i' o' b f Y z Ud=>?_⟩,?_⟩,λ v hv=>?_⟩
 . rw[Dr] at f;by_cases m:i=g
   . subst m;rw[if_pos rfl] at f;cases f;rw[Mo];obtain ⟨S,g2,T,U,V⟩:=E.heap.obj q _ Q;refine ⟨S,by rw[hlen];omega,T,λ j x hx=>?_,λ hc=>?_⟩
     . rw[BM] at hx;split at hx
       . exact U j x hx
       . cases hx
     . obtain ⟨f1,row,f2,f3,f4⟩:=V hc;refine ⟨f1,row,f2,f3,λ j x l y hx hy=>?_⟩;rw[BM] at hx;split at hx
       . exact f4 j x l y hx hy
       . cases hx
   . rw[if_neg m] at f;by_cases h2:i=q
     . subst h2;rw[if_pos rfl] at f;cases f;exact trivial
     . rw[if_neg h2] at f;rw[u i m];exact (E.heap.obj i o f).keep hF (λ _ h=>h) LA (λ b DD=>⟨rfl,E.heap.PH ⟨i,o,f,DD⟩⟩)
 . obtain ⟨j,p,m,h2,h3,h4⟩:=Bdm i o b f z;obtain ⟨j',p',Hc,LC,W,K⟩:=Bdm i' o' b Y Ud;have hj:=E.heap.inj j p j' p' b m Hc h2 LC;by_cases B:i=g
   . by_cases I:i'=g
     . rw[B,I]
     . have:=K I;have:=h3 B;omega
   . by_cases I:i'=g
     . have:=h4 B;have:=W I;omega
     . have:=h4 B;have:=K I;omega
 . have r:=E.keep;refine ⟨r.os,r.tape,r.output,r.size,r.Ua,r.F0,r.Fn,r.Fl,?_,r.sgk.trans LA,r.s0b⟩;rintro b ⟨i,o,f,z⟩;obtain ⟨j,p,m,h2,_⟩:=Bdm i o b f z;exact r.own _ ⟨j,p,m,h2⟩
 . cases hv with
   | ref id off len N Va n v hs hN Z h=>
     rw[Afq] at hs;cases hs;obtain ⟨ad,cap,S,g2,T,U,V⟩:=h rfl;refine .ref g 0 k k sz k _ YP (Bk _) Z λ _=>?_;rw[Xd,Mo];exact ⟨ad,cap,S,AQ,T,U,V⟩
theorem Wk.Ani{st:St}{t q k sz:Nat}(i:Nat){e:AG}{es:Ag}(r:get st.env t=some (.ref q 0 k es.length))(p:get st.hp q=some (.arr e sz es))(o:k<=es.length)(g:get st.hp i=none):
   Wk st ⟨(t,.ref i 0 k k)::st.env,(i,.arr e sz (es.take k))::Dn st.hp q (.Ij (Vb sz (es.length+1))),st.n⟩:=by
 intro c a w F M l;obtain ⟨b,h2⟩:=l.move p o g;refine ⟨F,_,⟨λ j d f=>?_,b.size,b.defers,b.heap,b.keep⟩⟩;rw[Dj] at f;split at f
 . rename_i m;subst m;cases f;exact h2 _ (l.env _ _ r)
 . exact b.env j d f
end
end Go.Am
namespace Go.Am
open Go
section
variable {P:AK} {c:Ctx} {st:St} {a:Act} {w:AI} {F:Nat->Prop} {M:Nat->Mb}
def Ave(P:AK)(h:Hp)(q:Nat)(t t2:AG)(id off len N:Nat)(x:D)(k:D->Hp->Prop):Prop:=
 match Dz P t,Dz P t2 with
 | some ⟨_,_,.slice e,_⟩,some ti2=>(match ti2.k with | .slice _=>True | .string=>True | _=>False)/\match Dz P e with
   | some g=>R6 h x λ b=>(∀y∈b,y.length=g.size)/\0<g.size/\g.zero.cells.length=g.size/\b≠[]/\match get h id with
     | some (.arr j i f)=>get h q=none/\off+len=f.length/\N=f.length/\j=e/\i=g.size/\(len+b.length)*g.bytes<=140737488355328/\len+b.length<=140737488355328/\
         k (.ref id off (len+b.length) (f++b).length) (Dn h id (.arr e i (f++b)))/\
         k (.ref q 0 (f.drop off++b).length (f.drop off++b).length) ((q,.arr e i (f.drop off++b))::h)
     | _=>False
   | none=>False
 | _,_=>False
theorem Atu(S:Rel c st a w F M){q t t2 ty:AG}{id off len N:Nat}{x:D}{vs vx:AJ}(hs:DR F w M (sg st.hp) (.ref id off len N) vs)(hx:DR F w M (sg st.hp) x vx){k:D->Hp->Prop}
   (h:Ave P st.hp q t t2 id off len N x k):∃d h' v w' M',k d h'/\Rel c {st with hp:=h'} a w' F M'/\DR F w' M' (sg h') d v/\(Builtin.append_ #[t,t2] ty #[vs,vx]).run P w= .ok v w':=by
 unfold Ave at h;split at h
 case h_2=>exact h.elim
 rename_i _ _ _ _ e z0 ti2 h1 h2;obtain ⟨i1,u1,z1,Og,H3,QT,e1⟩:=De h1;simp only[TI.mk.injEq] at e1;obtain rfl:=TK.of_slice e1.2.2.1.symm;obtain ⟨i2,u2,z2,H8,MN,a8,rfl⟩:=De h2;obtain ⟨Sc,h⟩:=h;have R:∀k,u2≠ .int k:=by rintro k rfl;simp[TK.of] at Sc
 split at h
 case h_2=>exact h.elim
 rename_i ti h3;obtain ⟨i,u,z,hi,hu,hz,rfl⟩:=De h3;obtain ⟨f,h',Ax3⟩:=Abn (P:=P) S hx h;clear h;obtain ⟨Yj,HO,H,a4,h⟩:=h';simp only at HO H Yj;rw[Jz] at H;obtain ⟨news,E2⟩:=Ax3 i.size HO Yj;have Xl:∀(j:Nat) e,f[j]?=some e->e.length=i.size:=λ j e he=>Yj e (Bt he);have a7:0<f.length:=Ca.2 a4;split at h
 case h_2=>exact h.elim
 rename_i l sz es r;obtain ⟨hn,E,rfl,rfl,rfl,K,hle,a0,a1⟩:=h;simp only at K;have a2:=S.heap.obj id _ r;obtain ⟨_,PV,W,Vn,Ao1⟩:=a2;simp only at Vn PV;cases hs with
 | ref _ _ _ _ ZC T _ Lz a6 hv h2=>
   rw[DT r] at Lz;simp only[AO.sg,Bo,Sg.arr.injEq] at Lz;obtain ⟨rfl,rfl⟩:=Lz;have Asi:=h2 rfl;obtain ⟨I,cap,rfl,h5,h6,h7,V⟩:=Asi;have hlen:(es++f).length=es.length+f.length:=AT;have FE:∀(j:Nat) x,(es++f)[j]?=some x->x.length=i.size:=λ j x g=>by
     rw[BZ] at g;split at g
     . exact Vn j x g
     . exact Xl _ x g
   have Dr:∀j,get (Dn st.hp id (.arr l i.size (es++f))) j=if j=id then some (.arr l i.size (es++f)) else get st.hp j:=DH _ _ _
   have V1:sg (Dn st.hp id (.arr l i.size (es++f))) id=some (.arr i.size (es++f).length):=by rw[Ee Dr];simp[AO.sg]
   by_cases Nf:len+f.length<=cap
   ·
     have K9:Ea M M (sg st.hp) (sg (Dn st.hp id (.arr l i.size (es++f)))):=by
       refine ⟨λ j g=>?_,λ j s2 T g=>?_,λ j s2 T k2 g=>?_⟩
       . have m:j≠id:=λ m=>by rw[m,DT r] at g;simp[AO.sg] at g
         rw[Ee Dr,if_neg m];exact ⟨g,rfl⟩
       . by_cases m:j=id
         . subst m;rw[DT r] at g;simp only[AO.sg,Bo,Sg.arr.injEq] at g;obtain ⟨rfl,rfl⟩:=g;exact ⟨_,V1,AQ,λ _=>rfl⟩
         . rw[Ee Dr,if_neg m];exact ⟨T,g,Bk _,λ _=>rfl⟩
       . have m:j≠id:=λ m=>by rw[m,DT r] at g;simp[AO.sg] at g
         rw[Ee Dr,if_neg m];exact ⟨T,k2,g,Bk _,Bk _,λ _=>⟨rfl,rfl⟩,λ _=>rfl⟩
     have Y:∀w',DR F w' M (sg (Dn st.hp id (.arr l i.size (es++f)))) (.ref id off (len+f.length) (es++f).length) (.slice I (len+f.length) cap):=λ w'=>by
       rw[hlen] at V1 ⊢;exact .ref id off _ _ i.size _ _ V1 (Bk _) ⟨_,_,_,rfl⟩ (λ _=>⟨I,_,rfl,AQ,Nf,AQ,V⟩)
     have Q:(M id).cap≠0:=AQ;obtain rfl:=V.resolve_left AQ;obtain ⟨V3,row,Ek,La,D4⟩:=Ao1 Q;have Boe:es.length*i.size+f.length*i.size<=row.size:=by rw[La,<-B7];exact CA _ AQ
     have UJ:∀v∈news,v.oneCell'=true:=λ v hv=>by
       obtain ⟨p,hp⟩:=B8.1 hv;have Dv:=(Bn.1 hp).1;have hs:=E2.size;have hdiv:p / i.size<f.length:=Nat.div_lt_of_lt_mul (by rw[Nat.mul_comm];omega);have o:f[p / i.size]?=some f[p / i.size]:=Bp hdiv;have Ao0:p % i.size<(f[p / i.size]).length:=by rw[Xl _ _ o];exact Nat.mod_lt _ HO
       have:=(E2.data _ _ _ _ o (Bp Ao0)).Mn;rwa[Nat.mul_comm,Nat.div_add_mod,Bu,hp] at this
     have Ly:=Iv P (M id).Fm (es.length*i.size) l news 0 row w Ek (by have:=E2.size;omega) UJ;simp only[B9] at Ly;have Bo6:off*i.size+len*i.size=es.length*i.size:=by rw[<-B7,E]
     have ET:=IN (P:=P) (w:=w) (ty:=ty) H3 MN R hi (base:=some ⟨(M id).Fm,off*i.size,none⟩) (n:=len) (E2.len w) (E2.cells w rfl) Nf
       (λ a5 U=>by cases U;rw[Addr.add_lit,Bo6];exact Ly) (λ U=>by cases U)
     refine ⟨_,_,_,(w.setRow (M id).Fm (row.toList.take (es.length*i.size)++news++row.toList.drop (es.length*i.size+news.length)).toArray),M,a0,S.change (M':=M) (w':=(w.setRow (M id).Fm (row.toList.take (es.length*i.size)++news++row.toList.drop (es.length*i.size+news.length)).toArray)) Dr (λ _ _=>rfl) K9 rfl rfl rfl AT (λ b hb EG=>setRow_other w _ b _ (λ e=>EG _ r ⟨Q,e⟩)) ?_ (λ b hb=> .inl ⟨_,r,hb⟩),Y _,ET⟩;have LA:∀{x v},PR F w x v->PR F (w.setRow (M id).Fm (row.toList.take (es.length*i.size)++news++row.toList.drop (es.length*i.size+news.length)).toArray) x v:=
       λ h=>h.keep (λ b hb=>setRow_other w _ b _ (λ e=>V3 (e ▸ hb))) (λ _ h=>h)
     have E:(row.toList.take (es.length*i.size)).length=es.length*i.size:=AW;refine ⟨HO,AQ,W,FE,λ _=>⟨V3,_,Ek.set ?_,?_,λ j y p x o hx=>?_⟩⟩
     . have ZY:=E2.size;have s:(row.toList.take (es.length*i.size)++news++row.toList.drop (es.length*i.size+news.length)).length=row.size:=by
         simp only[Bw,BK,List.length_drop,Array.length_toList];omega
       exact s
     . have ZY:=E2.size;have s:(row.toList.take (es.length*i.size)++news++row.toList.drop (es.length*i.size+news.length)).length=row.size:=by
         simp only[Bw,BK,List.length_drop,Array.length_toList];omega
       exact s.trans La
     . have:=Kz (F:=F) (w:=w) (rest:=row.toList.drop (es.length*i.size+news.length)) E E2.size Vn Xl (λ j y p x o hx=>by
         have h9:=D4 j y p x o hx;have Dv:=M7 (Bn.1 o).1 (Bk _) (show p<i.size by have:=(Bn.1 hx).1;have:=Vn j y o;omega);rw[Bu,BM,if_pos Dv];rwa[Bs,<-Cx] at h9) E2.data j y p x o hx
       have XB:=LA this;rw[Bs,CM];rwa[Bu] at XB
   ·
     obtain ⟨Lu,holds⟩:=VG (P:=P) S.heap (.inl ⟨l,r⟩) (show Xd (M id) i.size es.length off len (.slice I len cap) from ⟨I,cap,rfl,h5,h6,h7,V⟩);have Bdi:(es.drop off).take len=es.drop off:=by
       have:len=(es.drop off).length:=AW;rw[this];exact BH
     rw[Bdi] at holds;have B:(es.drop off).length=len:=AW;have Bs9:∀(j:Nat) x,(es.drop off)[j]?=some x->x.length=i.size:=λ j x g=>Vn _ x (by rw[BX] at g;exact g);have Blm:(es.drop off++f).length=len+f.length:=by rw[Bw,B]
     have Bz2:len+f.length<=140737488355328:=hle;have Bzf:(len+f.length)*i.bytes<=140737488355328:=K;have ET:=Jf (P:=P) (w:=w) (ty:=ty) H3 MN R hi hz (base:=I) (n:=len) (cap:=cap) (E2.len w) (E2.cells w.drew rfl)
       (by have:=holds.cells w.drew rfl;rw[B] at this;exact this) AQ Bz2 Bzf
     have Ww:len+f.length<=grownCap w (len+f.length) cap l:=grownCap_ge w _ _ _;have Z:grownCap w (len+f.length) cap l<=maxLen:=grownCap_le_maxLen w _ _ _ (by unfold maxLen;omega);have a3:Lu.length=len*i.size:=by have:=holds.size;rw[B] at this;exact this
     obtain ⟨Ql,Ym⟩:=S.Ach (q:=q) (cap:=grownCap w (len+f.length) cap l) (sz:=i.size) (es:=es.drop off++f) (e:=l)
       (vs:=Lu.toArray++news.toArray++Builtin.zeroCells z.cells (grownCap w (len+f.length) cap l - (len+f.length)))
       (w':=w.drew.alloc (.cells (Lu.toArray++news.toArray++Builtin.zeroCells z.cells (grownCap w (len+f.length) cap l - (len+f.length))) l))
       hn rfl rfl rfl rfl HO AQ Z (λ j x g=>by
         rw[BZ] at g;split at g
         . exact Bs9 _ x g
         . exact Xl _ x g) (by
         simp only[Array.size_append,List.size_toArray,I5,H,a3,E2.size,<-Nat.add_mul]
         congr 1;omega) (λ j y p x o hx=>by
         have:=Kz (rest:=(Builtin.zeroCells z.cells (grownCap w (len+f.length) cap l - (len+f.length))).toList) holds.size E2.size
           Bs9 Xl holds.data E2.data j y p x o hx
         simpa [List.getD,Array.getD_eq_getD_getElem?,<-Array.getElem?_toList] using this)
     rw[Blm] at Ym;exact ⟨_,_,_,_,_,a1,Ql,by rw[Blm];exact Ym,ET⟩
theorem Bl0{ops rest:As}{k:Kt}{o:Oper}{e:Call}{x y:AM}{id off len N:Nat}{t t2:AG}(q:o.op= .call e)(p:e.callee= .builtin .append)(n:e.args=#[x,y])(g:e.argTypes=#[t,t2])
   (hx:ev st x= .ref id off len N)
   (h:Ave P st.hp (o.dst.getD 0) t t2 id off len N (ev st y) λ d h'=>O P true ops rest k (({st with hp:=h'}:St).put o.dst d)):Af P true ops rest k o st .fail:=by
 refine Alr λ s a w F M Q f=>?_;have b:=Di f x;rw[hx] at b;have i:=Di f y;obtain ⟨d,h',v,r,M',j,h2,l,m⟩:=Atu (P:=P) (ty:=o.type) f b i h;unfold Oper.wp;have hex:(execOp a.eval o).run P w= .ok (.value v) r:=by
   simp[execOp,q,p,n,g,resolve,invoke,builtin,m,Result.andThen]
 rw[hex];exact ⟨_,F,M',j,h2.put l o.dst⟩
end
end Go.Am
namespace Go.Am
open Go
section
variable {P:AK} {ops rest:As} {k:Kt} {st:St} {o:Oper}
theorem Wk.EA{id j q sz:Nat}{e ty:AG}{es:Ag}{cs:Ai}(hb:get st.hp id=some (.box cs ty))(v:cs[j]?=some (.ref q 0 es.length es.length))(z:get st.hp q=some (.arr e sz es)):
   Wk st ⟨st.env,Dn (Dn st.hp q (.Oh sz es)) id (.box (cs.set j (.p (.sl es))) ty),st.n⟩:=by
 intro T a w F M I;have EG:id≠q:=λ e=>by subst e;rw[hb] at z;cases z
 obtain ⟨V3,row,t,Ek,La,D4,H⟩:=I.heap.obj id _ hb;have l:j<cs.length:=(Bn.1 v).1;obtain ⟨x,B,F',⟨rfl,rfl⟩,Ql,U,V,hp⟩:=N9 I (D4 j _ v).1 (k:=λ x B=>x= .sl es/\B=Dn st.hp q (.Oh sz es)) (by simp[PG,z,froze]);have g:get (Dn st.hp q (.Oh sz es)) id=some (.box cs ty):=by rw[DH,if_neg EG];exact hb
 obtain ⟨Bo7,Ac0,S,Aus,Bnz,Bjo,Bs8⟩:=Ql.heap.obj id _ g;have f:row=Ac0:=by
   have Q:=Bf (Ek.symm.trans Aus)
   injection Q
 subst f;have Dr:∀k,get (Dn (Dn st.hp q (.Oh sz es)) id (.box (cs.set j (.p (.sl es))) ty)) k=if k=id then some (.box (cs.set j (.p (.sl es))) ty) else get (Dn st.hp q (.Oh sz es)) k:=DH _ _ _
 have Lz:=GB Dr g rfl;refine ⟨F',M,Ql.change (M':=M) Dr (λ _ _=>rfl) (by rw[Lz];exact Ea.refl _ _) rfl rfl rfl (Bk _) (λ _ _ _=>rfl) ⟨Bo7,row,S,Aus,by simpa using Bnz,λ k d i=>?_,λ K E k m=>?_⟩ (λ b u=> .inl ⟨_,g,u⟩)⟩
 . rw[Lz];rw[BG] at i;by_cases f:j=k
   . subst f;rw[if_pos rfl,if_pos l] at i;simp only[Bo] at i;subst i;exact ⟨.p hp,(D4 j _ v).2⟩
   . rw[if_neg f] at i;exact Bjo k d i
 . have N:cs.any D.Afk=true:=by
     rw[Cf] at E ⊢;obtain ⟨y,R,r⟩:=E;rcases List.mem_or_eq_of_mem_set R with s | s
     . exact ⟨y,s,r⟩
     . subst s;cases r
   rw[BG] at m;by_cases f:j=k
   . subst f;rw[if_pos rfl,if_pos l] at m;cases m
   . rw[if_neg f] at m;exact Bs8 K N k m
end
end Go.Am
end
