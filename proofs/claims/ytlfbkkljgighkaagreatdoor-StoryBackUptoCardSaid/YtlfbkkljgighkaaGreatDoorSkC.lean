/- Texts of this proof, what it rests on, merged: part C. -/
import Derived.ChangeArms
import Derived.ChangeSame
import Derived.OpenShut
import Derived.RowKit
import Derived.Test.YtlfbkkljgighkaaGreatDoorSkB
section
set_option linter.unusedVariables false
set_option linter.unusedSimpArgs false
namespace Go.Am
open Go Go.ChangeShapes Go.RowKit
def Ael(P:AK):Nat->List Field->Option Nat
 | o,[]=>some o
 | o,f::r=>if f.offset=o then Ael P (o+P.cellsOf f.type) r else none
def Hv(P:AK):Nat->TypeId->Bool
 | 0,_=>false
 | n+1,t=>match P.underlying t with
   | some .bool | some (.int _) | some .string=>true
   | some (.slice e)=>decide (0<P.cellsOf e)&&Hv P n e
   | some (.struct a)=>decide (Ael P 0 a.toList=some (P.cellsOf t))&&a.toList.all λ f=>Hv P n f.type
   | some (.array m e)=>decide (m*P.cellsOf e=P.cellsOf t)&&Hv P n e
   | _=>false
mutual
def HZ {H:Type}:DataW H->Ax
  | .lit (.int k n)=>[.int k n]
  | .lit (.bool b)=>[.bool b]
  | .lit (.string l)=>[.str l]
  | .nil=>[.sl []]
  | .slice elems _=>[.sl (Auz elems)]
  | .agg parts=>R0 parts
  | _=>[]
def Auz {H:Type}:List (DataW H)->Ag
  | []=>[]
  | d::r=>HZ d::Auz r
def R0 {H:Type}:List (DataW H)->Ax
  | []=>[]
  | d::r=>HZ d++R0 r
end
def Bhe{H:Type}(d:DataW H):D:= .p ((HZ d).getD 0 (.bool false))
def PRl(F:Nat->Prop)(w:AI)(a:Ax)(vs:At):Prop:=a.length=vs.length/\∀(i:Nat) x,a[i]?=some x->PR F w x (vs.getD i undef)
section
variable {H:Type} {enc:TypeId×Value->H} {P:AK} {w:AI} {spare:Nat->Bool} {held:Bool}
theorem PRl.append{F:Nat->Prop}{e f:Ax}{vs b:At}(h:PRl F w e vs)(h':PRl F w f b):PRl F w (e++f) (vs++b):=by
 refine ⟨by simp[h.1,h'.1],λ i x hx=>?_⟩;rw[BZ] at hx;rw[Bu,BZ,<-h.1];split at hx
 . rename_i a;rw[if_pos a];simpa [List.getD] using h.2 i x hx
 . rename_i a;rw[if_neg a];simpa [List.getD] using h'.2 _ x hx
theorem PRl.one{F:Nat->Prop}{x:Pd}{v:AJ}(h:PR F w x v):PRl F w [x] [v]:=by
 refine ⟨rfl,λ i y a=>?_⟩;cases i with
 | zero=>simp only[BE,Bo] at a;subst a;exact h
 | succ i=>simp at a
theorem XE{F:Nat->Prop}{cs:At}{n:Nat}{m:Nat}(u:∀t,Hv P m t=true->∀cs x,DataW.trod enc P w 0 spare held n t cs=some x->PRl F w (HZ x.1) cs):
   ∀(l:List Field) (b:List (DataW H×List MemPlace)) (o a:Nat),b.length=l.length->Ael P o l=some a->cs.length=a->(l.all λ f=>Hv P m f.type)=true->
     (∀(i:Nat) (f:Field),l[i]?=some f->DataW.trod enc P w 0 spare held n f.type ((cs.drop f.offset).take (P.cellsOf f.type))=b[i]?)->PRl F w (R0 (b.map (·.1))) (cs.drop o)
 | [],b,o,a,p,j,k,_,_=>by
   have:b=[]:=B0 p;subst this;simp only[Ael,Bo] at j;subst j;rw[Cv AQ];exact ⟨rfl,λ i x hx=>by simp[R0] at hx⟩
 | f::r,b,o,a,p,j,k,q,hx=>by
   cases b with
   | nil=>simp at p
   | cons x b=>
     simp only[Ael] at j;split at j
     case isFalse=>cases j
     rename_i z;simp only[List.all_cons,Bz] at q;have s:=hx 0 f rfl;simp only[BE] at s;have v:=u f.type q.1 _ _ s;have h2:=XE u r b (o+P.cellsOf f.type) a (by simpa using p) j k q.2 (λ i g y=>by simpa using hx (i+1) g (by simpa using y));have e:cs.drop o=(cs.drop f.offset).take (P.cellsOf f.type)++cs.drop (o+P.cellsOf f.type):=by
       rw[z,<-List.drop_drop,List.take_append_drop]
     rw[e];simp only[B4,R0];exact v.append h2
theorem Z4{F:Nat->Prop}{cs:At}{e:AG}{n k:Nat}(j:∀cs x,DataW.trod enc P w 0 spare held n e cs=some x->PRl F w (HZ x.1) cs):
   ∀(b:List (DataW H×List MemPlace)) (a:Nat),cs.length=(a+b.length)*k->(∀i,i<b.length->DataW.trod enc P w 0 spare held n e ((cs.drop ((a+i)*k)).take k)=b[i]?)->
     PRl F w (R0 (b.map (·.1))) (cs.drop (a*k))
 | [],a,f,_=>by
   rw[Cv (by simp at f;omega)];exact ⟨rfl,λ i x hx=>by simp[R0] at hx⟩
 | x::b,a,f,hx=>by
   have g:=hx 0 AT;simp only[B9,BE] at g;have l:=j _ _ g;have h2:=Z4 j b (a+1) (by rw[f];simp only[Br];rw[show a+(b.length+1)=a+1+b.length by omega]) (λ i m=>by
     have:=hx (i+1) (by simp only[Br];omega);rw[show a+(i+1)=a+1+i by omega] at this
     simpa using this)
   have e:cs.drop (a*k)=(cs.drop (a*k)).take k++cs.drop ((a+1)*k):=by
     rw[B7,Nat.one_mul,<-List.drop_drop,List.take_append_drop]
   rw[e];simp only[B4,R0];exact l.append h2
theorem Ze{base n:Nat}{a:Addr}{cs:At}(h:w.cells? base a n=some cs):cs.length=n/\∀j,j<n->w.cell? (a.add j)=cs[j]?:=by
 unfold World.cells? at h;split at h
 . exact ⟨by simpa using mapM_some_length h,λ j b=>mapM_some_get h j j (by simp[b])⟩
 . cases h
theorem Ahi(a:List (DataW H×List MemPlace)):Auz (a.map (·.1))=a.map λ x=>HZ x.1:=by
 induction a with
 | nil=>rfl
 | cons x r b=>simp[Auz,b]
theorem Aqa{w:AI}{a:Addr}{v:AJ}(h:w.cell? a=some v):∃c t b,w.heap[a.block]?=some (.cells c t b)/\a.spot=none/\c[a.off]?=some v:=by
 unfold World.cell? at h;split at h
 . rename_i c t b hb;split at h
   . cases h
   . rename_i e;exact ⟨c,t,b,hb,by simpa using e,h⟩
 . cases h
theorem Bl4{F:Nat->Prop}(hF:∀b,b<w.heap.size->F b):∀(m:Nat) (t:AG),Hv P m t=true->∀(fuel:Nat) (cs:At) (x:DataW H×List MemPlace),
   DataW.trod enc P w 0 spare held fuel t cs=some x->PRl F w (HZ x.1) cs:=by
 intro m
 induction m with
 | zero=>intro t h;simp[Hv] at h
 | succ m Z=>
   intro t g fuel cs x h;simp only[Hv] at g;split at g
   . rename_i p;obtain ⟨b,rfl,rfl⟩:=DataW.trod_bool p h;exact .one (.bool b)
   . rename_i k p;obtain ⟨n,rfl,rfl,_⟩:=DataW.trod_int p h;exact .one (.int k n)
   . rename_i p;obtain ⟨s,rfl,rfl,_⟩:=DataW.trod_string p h;have:=PR.str (F:=F) (w:=w) s.data.toList;exact .one (by simpa using this)
   . rename_i e p;simp only[Bz,BI] at g;obtain ⟨hk,W⟩:=g;rcases DataW.trod_slice p h with ⟨rfl,rfl⟩ | ⟨a,len,cap,elems,rest,n,rfl,rfl,rfl,hb,Q,hc,u,Dr,_,_⟩
     . exact .one (.sl0 none 0)
     . refine .one ?_;simp only[Ahi];have V:∀(i:Nat) y,elems[i]?=some y->∃o,w.cells? 0 (a.add (i*P.cellsOf e)) (P.cellsOf e)=some o/\PRl F w (HZ y.1) o:=by
         intro i y r;have hi:i<len:=by rw[<-u];exact (Bn.1 r).1
         have:=Dr i hi;rw[r] at this;obtain ⟨o,T,h2⟩:=Option.bind_eq_some_iff.1 this;exact ⟨o,T,Z e W _ _ _ h2⟩
       have OT:∀(i:Nat) z,(elems.map λ x=>HZ x.1)[i]?=some z->∃y,elems[i]?=some y/\z=HZ y.1:=by
         intro i z l;rw[BD] at l;cases r:elems[i]? with
         | none=>rw[r] at l;cases l
         | some y=>rw[r] at l;cases l;exact ⟨y,rfl,rfl⟩
       by_cases h0:len=0
       . have:elems=[]:=B0 (u.trans h0);subst this;subst h0;exact .sl0 (some a) cap
       . have S:∃y,elems[0]?=some y:=⟨_,Bp AQ⟩;obtain ⟨y,r⟩:=S;obtain ⟨o,T,_⟩:=V 0 y r;obtain ⟨a1,Ad3⟩:=Ze T;have I:=Ad3 0 hk;rw[Bp AQ] at I;obtain ⟨c,te,fr,N,Blf,_⟩:=Aqa I;obtain ⟨b,off,spot⟩:=a;simp[Addr.add] at N Blf;subst Blf;have D4:∀(i:Nat) z (j:Nat) q,(elems.map λ x=>HZ x.1)[i]?=some z->z[j]?=some q->∃v,c[off+i*P.cellsOf e+j]?=some v/\PR F w q v:=by
           intro i z j q l E;obtain ⟨y,r,rfl⟩:=OT i z l;obtain ⟨R,U,K⟩:=V i y r;obtain ⟨Bz1,Bog⟩:=Ze U;have hj:j<P.cellsOf e:=by
             have:=(Bn.1 E).1;rw[K.1,Bz1] at this;exact this
           have h5:=Bog j hj;rw[Bp AQ] at h5;obtain ⟨c2,a2,a0,Tj,_,h6⟩:=Aqa h5;simp only[Addr.add_lit] at Tj h6;rw[N] at Tj;cases Tj;refine ⟨_,h6,?_⟩;have:=K.2 j q E;rwa[Bu,Bp AQ] at this
         have hlen:(elems.map λ x=>HZ x.1).length=len:=by simp[u]
         have:=PR.sl (F:=F) (w:=w) (elems.map λ x=>HZ x.1) b off cap (P.cellsOf e) c te fr (hF b (Cg.1 N).1) N AQ
           (λ i z l=>by
             obtain ⟨y,r,rfl⟩:=OT i z l;obtain ⟨R,U,K⟩:=V i y r;rw[K.1,(Ze U).1])
           (λ i z j q l E=>by obtain ⟨v,Y,_⟩:=D4 i z j q l E;exact (Cg.1 Y).1)
           (λ i z j q l E=>by
             obtain ⟨v,Y,hp⟩:=D4 i z j q l E;rw[Bs,Y];exact hp)
         rwa[hlen] at this
   . rename_i fs p;simp only[Bz,BI] at g;obtain ⟨xs,n,rfl,rfl,Q,B,Dr⟩:=DataW.trod_struct p h;have:=XE (F:=F) (cs:=cs) (λ t g cs x hx=>Z t g n cs x hx) fs.toList xs 0 _ (by simpa using B) g.1 Q g.2 (λ i f hf=>Dr i f (by simpa using hf))
     simpa [HZ] using this
   . rename_i k e p;simp only[Bz,BI] at g;obtain ⟨xs,n,rfl,rfl,Q,B,Dr⟩:=DataW.trod_array p h;have:=Z4 (F:=F) (cs:=cs) (λ cs x hx=>Z e g.2 n cs x hx) xs 0 (by rw[Q,B,B2,g.1]) (λ i hi=>by rw[B2];exact Dr i AQ)
     simpa [HZ] using this
   . cases g
end
end Go.Am
namespace Go.Am
open Go Go.ChangeShapes Go.RowKit
section
variable {H:Type} {enc:TypeId×Value->H} {P:AK} {w:AI} {held:Bool}
theorem Bn7{sp:Nat->Bool}:∀(m:Nat) (t:AG),Hv P m t=true->∀(fuel:Nat) (cs:At) (x:DataW H×List MemPlace),
   DataW.trod enc P w 0 (λ _=>true) held fuel t cs=some x->(∀p∈x.2,sp p.block=true)->DataW.trod enc P w 0 sp held fuel t cs=some x:=by
 intro m
 induction m with
 | zero=>intro t h;simp[Hv] at h
 | succ m N=>
   intro t r fuel cs x h QU;cases fuel with
   | zero=>simp[DataW.trod] at h
   | succ n=>
   simp only[Hv] at r;split at r
   . rename_i g;obtain ⟨b,rfl,rfl⟩:=DataW.trod_bool g h;simp[DataW.trod,g]
   . rename_i k g;obtain ⟨j,rfl,rfl,Y⟩:=DataW.trod_int g h;simp[DataW.trod,g,Y]
   . rename_i g;obtain ⟨s,rfl,rfl,v⟩:=DataW.trod_string g h;simp[DataW.trod,g,v]
   . rename_i e g;simp only[Bz,BI] at r;obtain ⟨V,K⟩:=r;unfold DataW.trod at h ⊢;rw[g] at h ⊢;split at h;all_goals first | (simp_all;done) | skip
     rename_i e1 a len cap u;simp only[Bo,TypeDesc.slice.injEq] at u;subst u;simp only at h ⊢;split at h
     case isFalse=>cases h
     rename_i hb;rw[if_pos hb];simp only[Option.bind_eq_some_iff,Cu,B5] at h ⊢;obtain ⟨elems,E,rest,l,rfl⟩:=h;have I:∀y∈elems++rest,∀p∈y.2,sp p.block=true:=λ y o p z=>QU p (by
       simp only[BC,List.mem_flatMap];exact .inr ⟨y,by simpa using o,z⟩)
     have step:∀(i:Nat) (y:DataW H×List MemPlace),y∈elems++rest->(w.cells? 0 (a.add (i*P.cellsOf e)) (P.cellsOf e)).bind (DataW.trod enc P w 0 (λ _=>true) held n e)=some y->
         (w.cells? 0 (a.add (i*P.cellsOf e)) (P.cellsOf e)).bind (DataW.trod enc P w 0 sp held n e)=some y:=by
       intro i y o q;obtain ⟨B,h2,S⟩:=Option.bind_eq_some_iff.1 q;exact Option.bind_eq_some_iff.2 ⟨B,h2,N e K _ _ _ S (I y o)⟩
     refine ⟨elems,mapM_carry E (λ i y _ o q=>step i y (by simp[o]) q),rest,?_,rfl⟩;by_cases T:cap - len=0
     . rw[T] at l ⊢;split
       . exact l
       . simpa using l
     . have W:rest.length=cap - len:=by simpa using mapM_some_length l
       have Ao1:sp a.block=true:=QU (.cell a.block a.off) (by
         simp only[BC];refine .inl (MemPlace.mem_row.2 ⟨0,?_,AT⟩);exact Nat.mul_pos AQ V)
       rw[if_pos Ao1];exact mapM_carry l (λ j y _ o q=>step (len+j) y (by simp[o]) q)
   . rename_i fs g;simp only[Bz,BI] at r;unfold DataW.trod at h ⊢;rw[g] at h ⊢;split at h;all_goals first | (simp_all;done) | skip
     rename_i R u;simp only[Bo,TypeDesc.struct.injEq] at u;subst u;(try simp only at h);split at h
     case isFalse=>cases h
     rename_i v;rw[if_pos v];simp only[Cu] at h ⊢;obtain ⟨Q,hx,rfl⟩:=h;refine ⟨Q,mapM_carry hx (λ f y U o q=>N f.type (BB.1 r.2 f U) _ _ _ q λ p z=>QU p ?_),rfl⟩;simp only[List.mem_flatMap];exact ⟨y,o,z⟩
   . rename_i k e g;simp only[Bz,BI] at r;unfold DataW.trod at h ⊢;rw[g] at h ⊢;split at h;all_goals first | (simp_all;done) | skip
     rename_i k' Z u;simp only[Bo,TypeDesc.array.injEq] at u;obtain ⟨rfl,rfl⟩:=u;(try simp only at h);split at h
     case isFalse=>cases h
     rename_i v;rw[if_pos v];simp only[Cu] at h ⊢;obtain ⟨Q,hx,rfl⟩:=h;refine ⟨Q,mapM_carry hx (λ i y _ o q=>N _ r.2 _ _ _ q λ p z=>QU p ?_),rfl⟩;simp only[List.mem_flatMap];exact ⟨y,o,z⟩
   . cases r
end
def Bn8(P:AK)(t:AG):Bool:=Hv P 30 t&&match P.underlying t with
 | some (.struct _)=>false
 | some (.array _ _)=>false
 | _=>true
section
variable {H:Type} {enc:TypeId×Value->H} {P:AK} {W:AI}
theorem Bb3{t:AG}{v:AJ}{d:DataW H}{m:List MemPlace}{sp:Nat->Bool}{M:Nat->Mb}{s:Nat->Option Sg}(e:Bn8 P t=true){j:Nat}(Ru:Value.okWide P W .any j t v)
   (h:DataW.Trod enc P W 0 sp true t v d m):DR (λ b=>b<W.heap.size) W M s (Bhe d) v:=by
 unfold Bn8 at e;simp only[Bz] at e;obtain ⟨g,i⟩:=e;obtain ⟨fuel,k⟩:=h;have a:=Bl4 (F:=λ b=>b<W.heap.size) (λ _ h=>h) 30 t g _ _ _ k;have UJ:v.cells=#[v]:=by
   cases v with
   | agg cs=>
     exfalso;unfold Value.okWide Cell.okWide Cell.ok at Ru;cases f:P.underlying t with
     | none=>rw[f] at Ru;simp at Ru
     | some u=>rw[f] at Ru i;cases u<;>simp[Hv,f] at Ru i g
   | _=>rfl
 rw[UJ] at a;have l:(HZ d).length=1:=a.1;obtain ⟨x,hx⟩:=List.length_eq_one_iff.1 l;unfold Bhe;simp only[hx,BO];have:=a.2 0 x (by simp[hx]);exact .p this
theorem Anq{W W':AI}(e:W'.os=W.os)(Aag:W'.output=W.output)(h:∀b,b<W.heap.size->W'.heap[b]?=W.heap[b]?)(may:MemPlace->Prop):W.keptBut W' may:=by
 refine ⟨e,Aag,λ i f=>?_⟩;rw[h i f];split
 . rename_i a h2;cases a.symm.trans h2;exact ⟨rfl,rfl,rfl,λ _ _=>rfl⟩
 . rename_i a h2;cases a.symm.trans h2;exact .inr ⟨rfl,rfl⟩
 . rfl
end
end Go.Am
namespace Go.Am
open Go
def HX(e h h':Hp):Prop:=∀id,get h' id=match get h id with | some o=>some o | none=>get e id
theorem Rs.Ya{α:Type}{p:Prop}{k:α->Prop}:∀{r:Rs α},p->r.all k->(r.and p).all k
 | .fail,_,h=>h.elim
 | .ret q a,f,h=>⟨⟨f,h.1⟩,h.2⟩
 | .split b x y,f,h=>⟨λ e=>Rs.Ya f (h.1 e),λ e=>Rs.Ya f (h.2 e)⟩
theorem Rs.DS{α β:Type}{f}{k:β->Prop}:∀{r:Rs α},r.all (λ a=>(f a).all k)->(r.bind f).all k
 | .fail,h=>h.elim
 | .ret p a,h=>Rs.Ya h.1 h.2
 | .split b x y,h=>⟨λ e=>Rs.DS (h.1 e),λ e=>Rs.DS (h.2 e)⟩
section
variable {P:AK} {e h h':Hp}
theorem HX.sm(hx:HX e h h'){id:Nat}{o:AO}(a:get h id=some o):get h' id=some o:=by rw[hx,a]
theorem HX.nn(hx:HX e h h'){id:Nat}(b:get h id=none)(a:get e id=none):get h' id=none:=by rw[hx,b];exact a
theorem HX.sg(hx:HX e h h'){id:Nat}{s:Sg}(a:sg h id=some s):sg h' id=some s:=by
 unfold Go.Am.sg at*;cases b:get h id with
 | none=>rw[b] at a;cases a
 | some o=>rw[b] at a;rw[hx.sm b];exact a
theorem HX.cur(hx:HX e h h'){id N:Nat}(a:Atl h id N):Atl h' id N:=by
 unfold Atl at*;cases b:Go.Am.sg h id with
 | none=>rw[b] at a;exact a.elim
 | some s=>rw[b] at a;rw[hx.sg b];exact a
theorem HX.Dn(hx:HX e h h')(id:Nat)(o:AO):HX e (Dn h id o) (Dn h' id o):=by
 intro j;rw[DH,DH];by_cases a:j=id
 . rw[if_pos a,if_pos a]
 . rw[if_neg a,if_neg a];exact hx j
theorem HX.cons(hx:HX e h h')(id:Nat)(o:AO):HX e ((id,o)::h) ((id,o)::h'):=by
 intro j;rw[Dj,Dj];by_cases a:id=j
 . rw[if_pos a,if_pos a]
 . rw[if_neg a,if_neg a];exact hx j
theorem HX.froze(hx:HX e h h'){id:Nat}{o:AO}(a:get h id=some o):HX e (froze h id) (froze h' id):=by
 unfold Go.Am.froze;rw[a,hx.sm a];cases o<;>first | exact hx.Dn _ _ | exact hx
theorem HX.refl(h:Hp):HX [] h h:=by
 intro id;cases get h id<;>rfl
theorem HX.one{q:Nat}{o:AO}(b:get h q=none):HX [(q,o)] h ((q,o)::h):=by
 intro id;simp only[Dj];by_cases a:q=id
 . subst a;rw[b];simp
 . rw[if_neg a,if_neg a];cases get h id<;>rfl
theorem Bd0(hx:HX e h h'){t:AG}{d:D}{k:D->Prop}(a:(Tf P h t d).all k):(Tf P h' t d).all k:=by
 unfold Tf at*;split at a
 . split at a
   . rename_i h2;simp only[hx.sm h2];exact a
   . exact a.elim
 . exact a
 . split at a
   . rename_i h2;simp only[hx.sm h2];exact a
   . rename_i h2;simp only[hx.sm h2];exact a
   . rename_i h2;simp only[hx.sm h2];exact a
   . exact a.elim
 . split at a
   . rename_i h2;simp only[hx.sm h2];exact a
   . exact a.elim
 . exact a.elim
theorem Afv(hx:HX e h h'){t:AG}{d:D}{f:Nat}{k:D->Prop}(a:(Kl P t d f h).all k):(Kl P t d f h').all k:=by
 unfold Kl at*;split at a
 . split at a
   . split at a
     . split at a
       . exact a
       . exact a
       . exact ⟨⟨a.1.1,hx.cur a.1.2⟩,a.2⟩
       . exact a.elim
     . exact a.elim
   . exact a.elim
 . exact a.elim
theorem Afm(hx:HX e h h'){t:AG}{d i:D}{k:D->Prop}(a:(HN P t d i h).all k):(HN P t d i h').all k:=by
 unfold HN at*;split at a
 . split at a
   . split at a
     . exact a
     . exact a
     . split at a
       . rename_i h2;simp only[hx.sg h2];exact a
       . exact a.elim
     . exact a
     . exact a.elim
   . exact a.elim
 . exact a
 . exact a.elim
theorem Auo(hx:HX e h h'){t:AG}{d:D}{k:D->Prop}(a:(As9 P h t d).all k):(As9 P h' t d).all k:=by
 unfold As9 at*;split at a
 . split at a
   . exact a
   . exact a
   . exact a
   . exact ⟨hx.cur a.1,a.2⟩
   . exact a
   . exact a
   . exact a
   . exact a.elim
 . exact a.elim
theorem Aw8{env:Ar}{n:Nat}(hx:HX e h h'){t:AG}{x:D}{f b g:Option Operand}{k:D->Prop}(a:(LV P ⟨env,h,n⟩ t x f b g).all k):(LV P ⟨env,h',n⟩ t x f b g).all k:=by
 unfold LV at*;split at a
 . exact a
 . split at a
   . split at a
     . exact a
     . split at a
       . rename_i h2;simp only[hx.sg h2];exact a
       . exact a.elim
     . exact a.elim
   . exact a.elim
 . exact a.elim
theorem As8(hx:HX e h h'){t:AG}{x i:D}{a:Bool}{k:D->Prop}(b:(Xj P h t x i a).all k):(Xj P h' t x i a).all k:=False.elim b
theorem Awl(hx:HX e h h'){t:AG}{m i v:D}{k:Hp->Prop}(b:(VU P h t m i v).all k):(VU P h' t m i v).all (λ y=>∃a,HX e a y/\k a):=False.elim b
theorem Aue{env:Ar}{n:Nat}(hx:HX e h h'){b:Op}{k:D->Prop}(a:(NM P ⟨env,h,n⟩ b).all k):(NM P ⟨env,h',n⟩ b).all k:=by
 unfold NM at*;cases b<;>simp only at a ⊢<;>first
   | exact a
   | exact Bd0 hx a
   | exact Aw8 hx a
   | exact Afv hx a
   | exact Afm hx a
   | exact As8 hx a
   | skip
 . have g:∀x,ev ⟨env,h',n⟩ x=ev ⟨env,h,n⟩ x:=λ _=>rfl;simp only[g];split at a
   . rename_i f;exact a
   . rename_i f;exact a
   . rename_i f;exact ⟨hx.cur a.1,a.2⟩
   . exact a.elim
 . rename_i fn _ _;cases fn<;>first
     | exact a
     | exact a.elim
 . rename_i i;cases i<;>first
     | exact a
     | exact a.elim
theorem Iy(hx:HX e h h'){d:D}{k:D×Hp->Prop}(a:(Aer h d).all k):(Aer h' d).all (λ y=>∃b,HX e b y.2/\k (y.1,b)):=by
 unfold Aer at*;split at a
 . split at a
   . rename_i b;simp only[hx.sm b];exact ⟨a.1,_,hx.froze b,a.2⟩
   . rename_i b;simp only[hx.sm b];exact ⟨a.1,_,hx,a.2⟩
   . exact a.elim
 . split at a
   . rename_i b;simp only[hx.sm b];exact ⟨a.1,_,hx.Dn _ _,a.2⟩
   . exact a.elim
 . exact ⟨a.1,_,hx,a.2⟩
 . exact ⟨a.1,_,hx,a.2⟩
mutual
theorem Bhb:∀{d:D} {h h':Hp} (_:HX e h h') {k:D×Hp->Prop} (_:(Er h d).all k),(Er h' d).all (λ y=>∃h1,HX e h1 y.2/\k (y.1,h1))
  | .agg cs,h,h',hx,k,hh=>by
    simp only[Er] at*;exact Rs.DS (Rs.Dg (λ y hy=>by obtain ⟨h1,MM,h2⟩:=hy;exact ⟨h2.1,h1,MM,h2.2⟩) (Ux hx (Rs.all_bind hh)))
  | .Em cs,h,h',hx,k,hh=>by
    simp only[Er] at*;exact Rs.DS (Rs.Dg (λ y hy=>by obtain ⟨h1,MM,h2⟩:=hy;exact ⟨h2.1,h1,MM,h2.2⟩) (Ux hx (Rs.all_bind hh)))
  | .p _,h,h',hx,k,hh=>by simp only[Er] at*;exact Iy hx hh
  | .cl _,h,h',hx,k,hh=>by simp only[Er] at*;exact Iy hx hh
  | .cz _,h,h',hx,k,hh=>by simp only[Er] at*;exact Iy hx hh
  | .ref _ _ _ _,h,h',hx,k,hh=>by simp only[Er] at*;exact Iy hx hh
  | .ptr _ _,h,h',hx,k,hh=>by simp only[Er] at*;exact Iy hx hh
  | .pe _,h,h',hx,k,hh=>by simp only[Er] at*;exact Iy hx hh
  | .ea _ _ _ _,h,h',hx,k,hh=>by simp only[Er] at*;exact Iy hx hh
  | .fn _ _,h,h',hx,k,hh=>by simp only[Er] at*;exact Iy hx hh
  | .np,h,h',hx,k,hh=>by simp only[Er] at*;exact Iy hx hh
  | .mv _,h,h',hx,k,hh=>by simp only[Er] at*;exact Iy hx hh
  | .E3 _ _,h,h',hx,k,hh=>by simp only[Er] at*;exact Iy hx hh
  | .R9 _ _ _,h,h',hx,k,hh=>by simp only[Er] at*;exact Iy hx hh
  | .nr _ _ _ _,h,h',hx,k,hh=>by simp only[Er] at*;exact Iy hx hh
  | .WE,h,h',hx,k,hh=>by simp only[Er] at*;exact Iy hx hh
  | .bad,h,h',hx,k,hh=>by simp only[Er] at*;exact Iy hx hh
theorem Ux:∀{ds:Ai} {h h':Hp} (_:HX e h h') {k:Ai×Hp->Prop} (_:(JQ h ds).all k),(JQ h' ds).all (λ y=>∃h1,HX e h1 y.2/\k (y.1,h1))
  | [],h,h',hx,k,hh=>by simp only[JQ] at*;exact ⟨hh.1,_,hx,hh.2⟩
  | d::r,h,h',hx,k,hh=>by
    simp only[JQ] at*;refine Rs.DS (Rs.Dg (λ y hy=>?_) (Bhb hx (Rs.all_bind hh)));obtain ⟨h1,MM,h2⟩:=hy;exact Rs.DS (Rs.Dg (λ z hz=>by obtain ⟨h3,hx3,h4⟩:=hz;exact ⟨h4.1,h3,hx3,h4.2⟩) (Ux MM (Rs.all_bind h2)))
end
theorem Bit(hx:HX e h h'){d:D}{k:Pd×Hp->Prop}(a:(Afh h d).all k):(Afh h' d).all (λ y=>∃b,HX e b y.2/\k (y.1,b)):=by
 unfold Afh at*;split at a
 . exact ⟨a.1,_,hx,a.2⟩
 . exact ⟨a.1,_,hx,a.2⟩
 . exact ⟨a.1,_,hx,a.2⟩
 . split at a
   . rename_i b;simp only[hx.sm b];exact ⟨a.1,_,hx.froze b,a.2⟩
   . rename_i b;simp only[hx.sm b];exact ⟨a.1,_,hx,a.2⟩
   . exact a.elim
 . split at a
   . rename_i b;simp only[hx.sm b];exact ⟨a.1,_,hx.Dn _ _,a.2⟩
   . exact a.elim
 . exact a.elim
theorem Ac8:∀{ds:Ai} {h h':Hp} (_:HX e h h') {k:Ax×Hp->Prop} (_:(MC h ds).all k),(MC h' ds).all (λ y=>∃b,HX e b y.2/\k (y.1,b))
 | [],h,h',hx,k,a=>by simp only[MC] at*;exact ⟨a.1,_,hx,a.2⟩
 | d::r,h,h',hx,k,a=>by
   simp only[MC] at*;refine Rs.DS (Rs.Dg (λ y j=>?_) (Bit hx (Rs.all_bind a)));obtain ⟨b,MM,h2⟩:=j;exact Rs.DS (Rs.Dg (λ z l=>by obtain ⟨i,f,g⟩:=l;exact ⟨g.1,i,f,g.2⟩) (Ac8 MM (Rs.all_bind h2)))
theorem Bin(hx:HX e h h'){d:D}{k:Ag->Prop}(a:(Afe h d).all k):(Afe h' d).all k:=by
 unfold Afe at*;split at a
 . exact a
 . exact a
 . exact a
 . split at a
   . rename_i b;simp only[hx.sm b];exact a
   . rename_i b;simp only[hx.sm b];exact a
   . exact a.elim
 . exact a.elim
theorem Bhg(hx:HX e h h'){q:Nat}(p:get e q=none){t t2:AG}{s x:D}{k:D×Hp->Prop}(m:(Vr P h q t t2 s x).all k):(Vr P h' q t t2 s x).all (λ y=>∃b,HX e b y.2/\k (y.1,b)):=by
 unfold Vr at*;split at m
 case h_2=>exact m.elim
 split at m
 case h_2=>exact m.elim
 refine Rs.DS (Rs.Dg (λ H a=>?_) (Bin hx (Rs.all_bind m)));split at a
 . obtain ⟨⟨f,g,i,j,l,o⟩,n⟩:=a;exact ⟨⟨f,g,i,j,hx.nn l p,o⟩,_,hx.cons _ _,n⟩
 . refine WIf.mono a (λ a=>⟨a.1,_,hx,a.2⟩) λ a=>?_;obtain ⟨⟨f,g,i,j,l,o⟩,n⟩:=a;exact ⟨⟨f,g,i,j,hx.nn l p,o⟩,_,hx.cons _ _,n⟩
 . obtain ⟨E,a⟩:=VF a;refine Agk E ?_;split at a
   . rename_i b;simp only[hx.sm b];exact ⟨a.1,_,hx.Dn _ _,a.2⟩
   . exact a.elim
 . split at a
   . rename_i b;obtain ⟨⟨f,g,i,j,⟨r,u,v,w,z,B⟩,l⟩,n⟩:=a;simp only[hx.sm b];exact ⟨⟨f,g,i,j,⟨r,u,v,w,z,hx.nn B p⟩,l⟩,_,(hx.Dn _ _).cons _ _,n⟩
   . exact a.elim
 . exact a.elim
theorem Bhi(hx:HX e h h'){t t2:AG}{id N:Nat}{x:D}{k:D×Hp->Prop}(a:(Vs P h t t2 id N x).all k):(Vs P h' t t2 id N x).all (λ y=>∃g,HX e g y.2/\k (y.1,g)):=by
 unfold Vs at*;split at a
 case h_2=>exact a.elim
 split at a
 case h_2=>exact a.elim
 rename_i b;split at a
 case h_2=>exact a.elim
 rename_i f i;simp only[hx.sm b,hx.sm f,hx.sm i, *];exact ⟨a.1,_,(hx.Dn _ _).Dn _ _,a.2⟩
theorem Bke(hx:HX e h h'){q:Nat}(f:get e q=none){t t2:AG}{s x:D}{k:D×Hp->Prop}(b:(Aet P h q t t2 s x).all k):(Aet P h' q t t2 s x).all (λ y=>∃a,HX e a y.2/\k (y.1,a)):=by
 cases s<;>simp only[Aet] at*<;>first | exact Bhi hx b | exact Bhg hx f b
theorem Bgw(hx:HX e h h'){t:AG}{s x:D}{k:D×Hp->Prop}(b:(u9 P h t s x).all k):(u9 P h' t s x).all (λ y=>∃a,HX e a y.2/\k (y.1,a)):=False.elim b
theorem Ak6(hx:HX e h h'){id i n:Nat}{v:D}{k:Hp->Prop}(a:(IP h id i n v).all k):(IP h' id i n v).all (λ y=>∃b,HX e b y/\k b):=by
 unfold IP at*;split at a
 . split at a
   . rename_i b h2;simp only[hx.sm b,hx.sm h2];exact ⟨a.1,_,(hx.Dn _ _).Dn _ _,a.2⟩
   . exact a.elim
 . exact a.elim
theorem Aw5(hx:HX e h h'){t:AG}{a v:D}{k:Hp->Prop}(b:(PF P h t a v).all k):(PF P h' t a v).all (λ y=>∃g,HX e g y/\k g):=by
 unfold PF at*;split at b
 case h_2=>exact b.elim
 split at b
 case h_2=>exact b.elim
 split at b
 . split at b
   . rename_i g;simp only[hx.sm g];exact ⟨b.1,_,hx.Dn _ _,b.2⟩
   . exact b.elim
 . refine Rs.DS (Rs.Dg (λ y f=>?_) (Ac8 hx (Rs.all_bind b)));obtain ⟨g,MM,f⟩:=f;split at f
   . rename_i h2;simp only[MM.sm h2];exact ⟨f.1,_,MM.Dn _ _,f.2⟩
   . exact f.elim
 . exact Rs.Ya (Rs.GD b).1 (Ak6 hx (Rs.GD b).2)
 . exact b.elim
end
end Go.Am
namespace Go.Am
open Go
section
variable {P:AK} {e h h':Hp}
theorem Bcy{env:Ar}{n:Nat}(hx:HX e h h'){q:Nat}(g:get e q=none){l:Op}{k:D×Hp->Prop}(a:(MI P ⟨env,h,n⟩ q l).all k):
   (MI P ⟨env,h',n⟩ q l).all (λ y=>∃f,HX e f y.2/\k (y.1,f)):=by
 have j:∀x,ev ⟨env,h',n⟩ x=ev ⟨env,h,n⟩ x:=λ _=>rfl;have m:ev ⟨env,h',n⟩=ev ⟨env,h,n⟩:=funext j;unfold MI at*;simp only[j] at*;split at a
 . split at a
   . split at a
     . exact ⟨hx.nn a.1 g,_,hx.cons _ _,a.2⟩
     . exact a.elim
   . exact a.elim
 . split at a
   . exact ⟨hx.nn a.1 g,_,hx.cons _ _,a.2⟩
   . exact a.elim
 . refine Rs.DS (Rs.Dg (λ y b=>?_) (Aw5 hx (Rs.all_bind a)));obtain ⟨f,MM,b⟩:=b;exact ⟨b.1,f,MM,b.2⟩
 . exact ⟨hx.nn a.1 g,_,hx.cons _ _,a.2⟩
 . refine Rs.DS (Rs.Dg (λ y b=>?_) (Awl hx (Rs.all_bind a)));obtain ⟨f,MM,b⟩:=b;exact ⟨b.1,f,MM,b.2⟩
 . split at a
   . split at a
     . split at a
       . split at a
         . exact a.elim
         rename_i i;rw[if_neg i];refine Rs.DS (Rs.Dg (λ y b=>?_) (Ac8 hx (Rs.all_bind a)));obtain ⟨f,MM,b⟩:=b;exact ⟨⟨b.1.1,b.1.2.1,MM.nn b.1.2.2 g⟩,_,MM.cons _ _,b.2⟩
       . exact a.elim
     . exact a.elim
   . exact a.elim
 . split at a
   . split at a
     . split at a
       . exact a.elim
       rename_i i;rw[if_neg i];refine Rs.DS (Rs.Dg (λ y b=>?_) (Rs.all_bind a));exact ⟨⟨b.1.1,hx.nn b.1.2.1 g,b.1.2.2⟩,_,hx.cons _ _,b.2⟩
     . exact a.elim
   . exact a.elim
 . exact a.elim
theorem Rm{env:Ar}{n:Nat}(hx:HX e h h'){q:Nat}(g:get e q=none){b:Op}{k:D×Hp->Prop}(a:(Rn P ⟨env,h,n⟩ q b).all k):
   (Rn P ⟨env,h',n⟩ q b).all (λ y=>∃f,HX e f y.2/\k (y.1,f)):=by
 have i:FM ⟨env,h',n⟩ b=FM ⟨env,h,n⟩ b:=rfl;unfold Rn at*;rw[i];split at a
 . rename_i t d f;unfold Ah9 at*;split at a
   case h_2=>exact a.elim
   split at a
   case h_2=>exact a.elim
   exact ⟨hx.nn a.1 g,_,hx.cons _ _,a.2⟩
 . exact Bcy hx g a
theorem Aqe{env:Ar}{n:Nat}(hx:HX e h h'){q:Nat}(j:get e q=none){b:Builtin}{i:Array TypeId}{args:Ai}{k:D×Hp->Prop}(a:(Ib P ⟨env,h,n⟩ q b i args).all k):
   (Ib P ⟨env,h',n⟩ q b i args).all (λ y=>∃f,HX e f y.2/\k (y.1,f)):=by
 unfold Ib at*;split at a
 . split at a
   . refine Rs.DS (Rs.Dg (λ y g=>?_) (Auo hx (Rs.all_bind a)));exact ⟨g.1,_,hx,g.2⟩
   . exact a.elim
 . split at a
   . exact Bke hx j a
   . exact a.elim
 . split at a
   . exact Bgw hx a
   . exact a.elim
 . exact ⟨a.1,_,hx,a.2⟩
 . exact ⟨a.1,_,hx,a.2⟩
 . exact ⟨a.1,_,hx,a.2⟩
 . exact a.elim
theorem Bos{env:Ar}{n:Nat}(hx:HX e h h'){o:Oper}(b:get e (o.dst.getD 0)=none){k:D×Hp->Prop}(a:(Ps P ⟨env,h,n⟩ o).all k):
   (Ps P ⟨env,h',n⟩ o).all (λ y=>∃f,HX e f y.2/\k (y.1,f)):=by
 have val:∀{i:Op},((NM P ⟨env,h,n⟩ i).bind λ d=> .ret True (d,h)).all k->((NM P ⟨env,h',n⟩ i).bind λ d=> .ret True (d,h')).all (λ y=>∃f,HX e f y.2/\k (y.1,f)):=λ j=>
   Rs.DS (Rs.Dg (λ d g=>⟨g.1,_,hx,g.2⟩) (Aue hx (Rs.all_bind j)))
 unfold Ps at*;split at a
 . split at a
   . exact Aqe hx b a
   . exact a.elim
 . rename_i f;exact Rm hx b a
 . exact Rm hx b a
 . exact Rm hx b a
 . exact Rm hx b a
 . exact Rm hx b a
 . exact Rm hx b a
 . exact Rm hx b a
 . exact val a
theorem Bh5{env:Ar}{n:Nat}(hx:HX e h h'){f:AM}{args:AD}{k:FuncId×Ai×Hp->Prop}(g:(KH ⟨env,h,n⟩ f args).all k):
   (KH ⟨env,h',n⟩ f args).all (λ y=>∃a,HX e a y.2.2/\k (y.1,y.2.1,a)):=by
 have i:∀x,ev ⟨env,h',n⟩ x=ev ⟨env,h,n⟩ x:=λ _=>rfl;have j:ev ⟨env,h',n⟩=ev ⟨env,h,n⟩:=funext i;unfold KH at*;rw[j];split at g
 . refine Rs.DS (Rs.Dg (λ y b=>?_) (Ux hx (Rs.all_bind g)));obtain ⟨a,MM,b⟩:=b;exact ⟨b.1,a,MM,b.2⟩
 . exact g.elim
theorem Kn:∀(l T:Aq) (id:Nat),id∈T->id∈Ig T l
 | [],T,id,h=>h
 | i::r,T,id,h=>by
   simp only[Ig];split
   . exact Kn r T id h
   . exact Kn r _ id (CC _ h)
theorem Acz(hx:HX e h h'):∀(l:Aq),(∀id∈l,(get h id).isSome=true)->ML h' l=ML h l
 | [],_=>rfl
 | i::r,b=>by
   obtain ⟨o,a⟩:=Cj.1 (b i AT);simp only[ML,a,hx.sm a,Acz hx r (λ id f=>b id (by simp[f]))]
theorem XC(hx:HX e h h')(b:∀id,get e id≠none->id<10000){id:Nat}(hid:base<=id):ghost h' id=ghost h id:=by
 have:get h' id=get h id:=by
   rw[hx];cases f:get h id with
   | some o=>rfl
   | none=>
     cases a:get e id with
     | none=>rfl
     | some o=>have:=b id (by rw[a];simp);unfold base at hid;omega
 simp only[ghost,this]
theorem Ax5(hx:HX e h h')(a:∀id,get e id≠none->id<10000):V5 h'=V5 h:=by
 simp only[V5,XC hx a (Bk base),XC hx a (Nat.le_add_right base 1),XC hx a (Nat.le_add_right base 2),XC hx a (Nat.le_add_right base 3)]
theorem Ait(hx:HX e h h')(i:∀id,get e id≠none->id<10000)(ids:Aq)(b:∀id∈FO h ids,(get h id).isSome=true):FO h' ids=FO h ids:=by
 unfold FO at*;simp only at b ⊢;have f:ML h' (Ig [] ids)=ML h (Ig [] ids):=Acz hx _ λ id a=>b id (Kn _ _ _ (Kn _ _ _ (Kn _ _ _ a)));rw[f];have g:ML h' (Ig (Ig [] ids) (ML h (Ig [] ids)))=ML h (Ig (Ig [] ids) (ML h (Ig [] ids))):=Acz hx _ λ id a=>b id (Kn _ _ _ (Kn _ _ _ a));rw[g,Ax5 hx i]
theorem Arj(hx:HX e h h')(ρ:Nat->Option Nat):∀(T:Aq) (k:Nat),(∀id∈T,(get h id).isSome=true)->sub h' ρ k T=sub h ρ k T
 | [],_,_=>rfl
 | i::r,k,b=>by
   obtain ⟨o,a⟩:=Cj.1 (b i AT);simp only[sub,a,hx.sm a,Arj hx ρ r (k+1) (λ id f=>b id (by simp[f]))]
theorem Ao7(hx:HX e h h'){q:Nat}(b:∀j,get e (10000*(j+1)+q)=none):∀(l:Hp),fresh q h l->fresh q h' l
 | [],_=>trivial
 | (j,_)::r,a=>⟨a.1.imp id λ f=>hx.nn f (b j),Ao7 hx b r a.2⟩
theorem Xi(hx:HX e h h')(T:Aq)(q:Nat):∀(l:Hp),HX e (merge T q h l) (merge T q h' l)
 | []=>hx
 | (j,o)::r=>by
   simp only[merge];split
   . exact (Xi hx T q r).Dn _ _
   . exact Xi hx T q r
theorem Bh7(hx:HX e h h'){f:AH}{ds:Ai}{q:Nat}(l:∀id,get e id≠none->id<10000)(t:∀j,get e (10000*(j+1)+q)=none){k:D->Hp->Prop}(n:LD P h f ds q k):
   LD P h' f ds q (λ d y=>∃a,HX e a y/\k d a):=by
 unfold LD at*;obtain ⟨a,h2,i⟩:=n;have g:∀id∈FO h (E8 ds),(get h id).isSome=true:=λ id b=>BB.1 h2 id b;rw[Ait hx l _ g];refine ⟨a,BB.2 λ id b=>?_,?_⟩
 . obtain ⟨o,s⟩:=Cj.1 (g id b);rw[hx.sm s];rfl
 . rw[Arj hx _ _ _ g];exact i.mono λ h2 r ⟨m,p⟩=>⟨Ao7 hx t h2 m,_,Xi hx _ _ _,p⟩
theorem Rs.Ie{α:Type}{S:Prop}{k:α->Prop}:∀{r:Rs α},r.all k->r.OF S k
 | .fail,h=>h.elim
 | .ret p a,h=>h
 | .split b x y,h=>⟨λ e=>Rs.Ie (h.1 e),λ e=>Rs.Ie (h.2 e)⟩
theorem Wm{f:AH}{ds:Ai}{q:Nat}{k k':D->Hp->Prop}(i:∀d y,k d y->k' d y)(a:LD P h f ds q k):LD P h f ds q k':=by
 unfold LD at*;exact ⟨a.1,a.2.1,a.2.2.mono λ h2 r ⟨g,b⟩=>⟨g,i _ _ b⟩⟩
theorem Bmo{env:Ar}{n:Nat}(hx:HX e h h'){o:Oper}(k:∀id,get e id≠none->id<10000)(m:get e (o.dst.getD 0)=none){K:St->Prop}(a:Yu P false o K ⟨env,h,n⟩):
   Yu P false o (λ st=>∃g,HX e g st.hp/\K {st with hp:=g}) ⟨env,h',n⟩:=by
 have Sa:∀j,get e (10000*(j+1)+o.dst.getD 0)=none:=λ j=>by
   cases p:get e (10000*(j+1)+o.dst.getD 0) with
   | none=>rfl
   | some x=>have:=k _ (by rw[p];simp);omega
 have key:∀(y h2:Hp) (d:D),K ((⟨env,h2,n⟩:St).put o.dst d)->K {(⟨env,y,n⟩:St).put o.dst d with hp:=h2}:=by
   intro y h2 d b;generalize o.dst=dst at b ⊢;cases dst with
   | none=>exact b
   | some t=>
     simp only[St.put] at b ⊢;split
     . rename_i i;rw[if_pos i] at b;exact b
     . rename_i i;rw[if_neg i] at b;exact b
 have Blh:∀(st:St) (t:Option Nat) (d:D),(st.put t d).hp=st.hp:=by
   intro st t d;cases t with
   | none=>rfl
   | some t=>simp only[St.put];split<;>rfl
 unfold Yu at*;split at a
 . rename_i f args r;rcases Rs.Jn a with a | a
   case inr=>exact (BV a.1).elim
   simp only[RB] at a ⊢;refine Rs.Ie (Rs.Dg (λ x KL=>?_) (Bh5 hx a));obtain ⟨g,MM,l⟩:=KL;have:=Bh7 MM k Sa l;refine Wm (λ d y q=>?_) this;obtain ⟨h2,KL,b⟩:=q;exact ⟨h2,by rw[Blh];exact KL,key _ _ _ b⟩
 . rcases Rs.Jn a with a | a
   case inr=>exact (BV a.1).elim
   refine Rs.Ie (Rs.Dg (λ x KL=>?_) (Bos hx m a));obtain ⟨g,MM,b⟩:=KL;exact ⟨g,by rw[Blh];exact MM,key _ _ _ b⟩
end
end Go.Am
namespace Go.Am
open Go
def IG(h:Hp)(d:D):Prop:=∀id∈d.ids,get h id≠none
def JI(h:Hp)(ds:Ai):Prop:=∀id∈E8 ds,get h id≠none
def Me(h:Hp):Prop:=∀id o,get h id=some o->∀i∈o.ids,get h i≠none
def R2(h h':Hp):Prop:=∀id,get h id≠none->get h' id≠none
def Ih(q:Option Nat)(h h':Hp):Prop:=∀id,get h' id≠none->get h id≠none∨some id=q∨10000<=id
section
variable {P:AK} {e h h':Hp} {q:Option Nat}
theorem HX.eq(hx:HX e h h'){id:Nat}(b:get h id≠none):get h' id=get h id:=by
 cases a:get h id with
 | none=>exact (b a).elim
 | some o=>exact hx.sm a
theorem HX.nn'(hx:HX e h h'){id:Nat}(a:get h' id=none):get h id=none:=by
 cases b:get h id with
 | none=>rfl
 | some o=>rw[hx.sm b] at a;cases a
theorem Ih.refl(q:Option Nat)(h:Hp):Ih q h h:=λ _ a=> .inl a
theorem Ih.trans{a:Hp}(f:Ih q h h')(h2:Ih q h' a):Ih q h a:=λ id g=>by
 rcases h2 id g with b | b
 . exact f id b
 . exact .inr b
theorem R2.refl(h:Hp):R2 h h:=λ _ a=>a
theorem R2.trans{a:Hp}(b:R2 h h')(h2:R2 h' a):R2 h a:=λ id f=>h2 id (b id f)
theorem Ih.Dn{id:Nat}(f:get h id≠none)(o:AO):Ih q h (Dn h id o):=by
 intro j a;rw[DH] at a;by_cases b:j=id
 . subst b;exact .inl f
 . rw[if_neg b] at a;exact .inl a
theorem R2.Dn(h:Hp)(id:Nat)(o:AO):R2 h (Dn h id o):=by
 intro j b;rw[DH];by_cases a:j=id
 . rw[if_pos a];simp
 . rw[if_neg a];exact b
theorem Ahd{h:Hp}{id:Nat}(j:Nat):get (froze h id) j=match get h j with
   | some (.arr t sz es)=>if j=id then some (.Oh sz es) else some (.arr t sz es)
   | o=>o:=by
 unfold froze;split
 . rename_i t sz es b;rw[DH];by_cases a:j=id
   . subst a;rw[if_pos rfl,b];simp
   . rw[if_neg a];cases get h j with
     | none=>rfl
     | some o=>cases o<;>simp[a]
 . rename_i b;cases f:get h j with
   | none=>rfl
   | some o=>cases o with
     | arr t sz es=>
       by_cases a:j=id
       . subst a;exact (b _ _ _ f).elim
       . simp[a]
     | _=>rfl
theorem V7{h:Hp}{id j:Nat}:get (froze h id) j≠none↔get h j≠none:=by
 rw[Ahd];cases get h j with
 | none=>simp
 | some o=>cases o<;>simp<;>split<;>simp
theorem Me.froze(p:Me h)(id:Nat):Me (froze h id):=by
 intro j o a i b;rw[V7];rw[Ahd] at a;cases f:get h j with
 | none=>rw[f] at a;cases a
 | some r=>
   rw[f] at a;cases r with
   | arr t m n=>
     simp only at a;split at a<;>(cases a;simp[AO.ids] at b)
   | Oh m n=>cases a;simp[AO.ids] at b
   | iter l pos=>cases a;simp[AO.ids] at b
   | Ev g cs=>cases a;simp[AO.ids] at b
   | Ij s=>cases a;simp[AO.ids] at b
   | mp l=>cases a;simp[AO.ids] at b
   | Fc t e m k rows hole=>cases a;simp[AO.ids] at b
   | Yo t m n i c d=>cases a;exact p j _ f _ b
   | box cs u=>cases a;exact p j _ f i b
def HJ(h h':Hp):Prop:=∀id,get h' id≠none↔get h id≠none
theorem HJ.refl(h:Hp):HJ h h:=λ _=>Iff.rfl
theorem HJ.trans{a:Hp}(b:HJ h h')(h2:HJ h' a):HJ h a:=λ id=>(h2 id).trans (b id)
theorem HJ.Biu(f:HJ h h'){d:D}:IG h' d↔IG h d:=⟨λ b id a=>(f id).1 (b id a),λ b id a=>(f id).2 (b id a)⟩
theorem HJ.Auk(f:HJ h h'){d:Ai}:JI h' d↔JI h d:=⟨λ b id a=>(f id).1 (b id a),λ b id a=>(f id).2 (b id a)⟩
theorem Me.Dn(g:Me h){id:Nat}(m:get h id≠none){o:AO}(k:o.ids=[]):Me (Dn h id o):=by
 intro j l a i b;rw[DH] at a;by_cases f:j=id
 . rw[if_pos f] at a;cases a;rw[k] at b;cases b
 . rw[if_neg f] at a;exact R2.Dn h id o i (g j l a i b)
theorem HJ.Dn{id:Nat}(b:get h id≠none)(o:AO):HJ h (Dn h id o):=by
 intro j;rw[DH];by_cases a:j=id
 . subst a;rw[if_pos rfl];exact ⟨λ _=>b,λ _=>AT⟩
 . rw[if_neg a]
theorem Bcz(hx:HX e h h'){t:AG}{d:D}(a:IG h d):Tf P h' t d=Tf P h t d:=by
 unfold Tf;cases Dz P t with
 | none=>rfl
 | some b=>cases d with
   | ptr id off=>simp only[hx.eq (a id A2)]
   | ea id i c N=>simp only[hx.eq (a id A2)]
   | R9 id i n=>simp only[hx.eq (a id A2)]
   | _=>rfl
theorem Ix(hx:HX e h h')(b:Me h){d:D}(g:IG h d){k:D×Hp->Prop}(a:(Aer h' d).all k):
   (Aer h d).all (λ y=>(∃Hc,HX e y.2 Hc/\k (y.1,Hc))/\IG h y.1/\Me y.2/\HJ h y.2):=by
 have f:∀x:Pd,IG h (.p x):=λ x id l=>by simp[D.ids] at l
 unfold Aer at*;split at a
 . rename_i id off len N;rw[hx.eq (g id A2)] at a;split at a
   . rename_i i;exact ⟨a.1,⟨_,hx.froze i,a.2⟩,f _,b.froze id,λ j=>V7⟩
   . exact ⟨a.1,⟨_,hx,a.2⟩,f _,b,HJ.refl _⟩
   . exact a.elim
 . rename_i id n;have hid:=g id A2;rw[hx.eq hid] at a;split at a
   . exact ⟨a.1,⟨_,hx.Dn _ _,a.2⟩,f _,b.Dn hid rfl,HJ.Dn hid _⟩
   . exact a.elim
 . exact ⟨a.1,⟨_,hx,a.2⟩,f _,b,HJ.refl _⟩
 . exact ⟨a.1,⟨_,hx,a.2⟩,g,b,HJ.refl _⟩
theorem JI.cons{d:D}{r:Ai}:JI h (d::r)↔IG h d/\JI h r:=by
 unfold JI IG;simp only[E8,BC];exact ⟨λ a=>⟨λ id b=>a id (.inl b),λ id b=>a id (.inr b)⟩,λ a id b=>b.elim (a.1 id) (a.2 id)⟩
theorem IG.le{h2:Hp}(f:R2 h h2){d:D}(a:IG h d):IG h2 d:=λ id b=>f id (a id b)
theorem JI.le{h2:Hp}(f:R2 h h2){d:Ai}(a:JI h d):JI h2 d:=λ id b=>f id (a id b)
mutual
theorem Bha:∀{d:D} {h h':Hp} (_:HX e h h') (_:Me h) (_:IG h d) {k:D×Hp->Prop} (_:(Er h' d).all k),
    (Er h d).all (λ y=>(∃Hc,HX e y.2 Hc/\k (y.1,Hc))/\IG h y.1/\Me y.2/\HJ h y.2)
  | .agg cs,h,h',hx,hn,hd,k,hh=>by
    simp only[Er] at*;refine Rs.DS (Rs.Dg (λ y hy=>?_) (Uw hx hn (ds:=cs) hd (Rs.all_bind hh)));obtain ⟨⟨h1,MM,h2⟩,h3,h4⟩:=hy;exact ⟨h2.1,⟨h1,MM,h2.2⟩,h3,h4⟩
  | .Em cs,h,h',hx,hn,hd,k,hh=>by
    simp only[Er] at*;refine Rs.DS (Rs.Dg (λ y hy=>?_) (Uw hx hn (ds:=cs) hd (Rs.all_bind hh)));obtain ⟨⟨h1,MM,h2⟩,h3,h4⟩:=hy;exact ⟨h2.1,⟨h1,MM,h2.2⟩,h3,h4⟩
  | .p _,h,h',hx,hn,hd,k,hh=>by simp only[Er] at*;exact Ix hx hn hd hh
  | .cl _,h,h',hx,hn,hd,k,hh=>by simp only[Er] at*;exact Ix hx hn hd hh
  | .cz _,h,h',hx,hn,hd,k,hh=>by simp only[Er] at*;exact Ix hx hn hd hh
  | .ref _ _ _ _,h,h',hx,hn,hd,k,hh=>by simp only[Er] at*;exact Ix hx hn hd hh
  | .ptr _ _,h,h',hx,hn,hd,k,hh=>by simp only[Er] at*;exact Ix hx hn hd hh
  | .pe _,h,h',hx,hn,hd,k,hh=>by simp only[Er] at*;exact Ix hx hn hd hh
  | .ea _ _ _ _,h,h',hx,hn,hd,k,hh=>by simp only[Er] at*;exact Ix hx hn hd hh
  | .fn _ _,h,h',hx,hn,hd,k,hh=>by simp only[Er] at*;exact Ix hx hn hd hh
  | .np,h,h',hx,hn,hd,k,hh=>by simp only[Er] at*;exact Ix hx hn hd hh
  | .mv _,h,h',hx,hn,hd,k,hh=>by simp only[Er] at*;exact Ix hx hn hd hh
  | .E3 _ _,h,h',hx,hn,hd,k,hh=>by simp only[Er] at*;exact Ix hx hn hd hh
  | .R9 _ _ _,h,h',hx,hn,hd,k,hh=>by simp only[Er] at*;exact Ix hx hn hd hh
  | .nr _ _ _ _,h,h',hx,hn,hd,k,hh=>by simp only[Er] at*;exact Ix hx hn hd hh
  | .WE,h,h',hx,hn,hd,k,hh=>by simp only[Er] at*;exact Ix hx hn hd hh
  | .bad,h,h',hx,hn,hd,k,hh=>by simp only[Er] at*;exact Ix hx hn hd hh
theorem Uw:∀{ds:Ai} {h h':Hp} (_:HX e h h') (_:Me h) (_:JI h ds) {k:Ai×Hp->Prop} (_:(JQ h' ds).all k),
    (JQ h ds).all (λ y=>(∃Hc,HX e y.2 Hc/\k (y.1,Hc))/\JI h y.1/\Me y.2/\HJ h y.2)
  | [],h,h',hx,hn,hd,k,hh=>by simp only[JQ] at*;exact ⟨hh.1,⟨_,hx,hh.2⟩,hd,hn,HJ.refl _⟩
  | d::r,h,h',hx,hn,hd,k,hh=>by
    simp only[JQ] at*;obtain ⟨Tk,J9⟩:=JI.cons.1 hd;refine Rs.DS (Rs.Dg (λ y hy=>?_) (Bha hx hn Tk (Rs.all_bind hh)));obtain ⟨⟨h1,MM,h2⟩,Ti,ZV,hk1⟩:=hy;refine Rs.DS (Rs.Dg (λ z hz=>?_) (Uw MM ZV (hk1.Auk.2 J9) (Rs.all_bind h2)));obtain ⟨⟨h3,hx3,h4⟩,hp2,hn2,Sc⟩:=hz;exact ⟨h4.1,⟨h3,hx3,h4.2⟩,JI.cons.2 ⟨Ti,hk1.Auk.1 hp2⟩,hn2,hk1.trans Sc⟩
end
theorem Bis(hx:HX e h h')(b:Me h){d:D}(f:IG h d){k:Pd×Hp->Prop}(a:(Afh h' d).all k):
   (Afh h d).all (λ y=>(∃Hc,HX e y.2 Hc/\k (y.1,Hc))/\Me y.2/\HJ h y.2):=by
 unfold Afh at*;split at a
 . exact ⟨a.1,⟨_,hx,a.2⟩,b,HJ.refl _⟩
 . exact ⟨a.1,⟨_,hx,a.2⟩,b,HJ.refl _⟩
 . exact ⟨a.1,⟨_,hx,a.2⟩,b,HJ.refl _⟩
 . rename_i id off len N;rw[hx.eq (f id A2)] at a;split at a
   . rename_i g;exact ⟨a.1,⟨_,hx.froze g,a.2⟩,b.froze id,λ j=>V7⟩
   . exact ⟨a.1,⟨_,hx,a.2⟩,b,HJ.refl _⟩
   . exact a.elim
 . rename_i id n;have hid:=f id A2;rw[hx.eq hid] at a;split at a
   . exact ⟨a.1,⟨_,hx.Dn _ _,a.2⟩,b.Dn hid rfl,HJ.Dn hid _⟩
   . exact a.elim
 . exact a.elim
theorem Ac7:∀{ds:Ai} {h h':Hp} (_:HX e h h') (_:Me h) (_:JI h ds) {k:Ax×Hp->Prop} (_:(MC h' ds).all k),
   (MC h ds).all (λ y=>(∃Hc,HX e y.2 Hc/\k (y.1,Hc))/\Me y.2/\HJ h y.2)
 | [],h,h',hx,f,l,k,b=>by simp only[MC] at*;exact ⟨b.1,⟨_,hx,b.2⟩,f,HJ.refl _⟩
 | d::r,h,h',hx,f,l,k,b=>by
   simp only[MC] at*;obtain ⟨Tk,J9⟩:=JI.cons.1 l;refine Rs.DS (Rs.Dg (λ y n=>?_) (Bis hx f Tk (Rs.all_bind b)));obtain ⟨⟨p,MM,h2⟩,ZV,a⟩:=n;refine Rs.DS (Rs.Dg (λ z o=>?_) (Ac7 MM ZV (a.Auk.2 J9) (Rs.all_bind h2)));obtain ⟨⟨m,i,j⟩,g,Sc⟩:=o;exact ⟨j.1,⟨m,i,j.2⟩,g,a.trans Sc⟩
theorem Bim(hx:HX e h h'){d:D}(a:IG h d):Afe h' d=Afe h d:=by
 unfold Afe;split
 . rfl
 . rfl
 . rfl
 . rename_i id off len N;rw[hx.eq (a id A2)]
 . rfl
def Beh(e h:Hp)(q:Option Nat)(k:D×Hp->Prop)(y:D×Hp):Prop:=(∃Hc,HX e y.2 Hc/\k (y.1,Hc))/\Ih q h y.2
theorem Bhf(hx:HX e h h'){q:Nat}{t t2:AG}{s x:D}(v:IG h s)(K:IG h x){k:D×Hp->Prop}(f:(Vr P h' q t t2 s x).all k):(Vr P h q t t2 s x).all (Beh e h (some q) k):=by
 unfold Vr at*;split at f
 case h_2=>exact f.elim
 split at f
 case h_2=>exact f.elim
 rw[Bim hx K] at f;refine Rs.DS (Rs.Dg (λ R a=>?_) (Rs.all_bind f));split at a
 . obtain ⟨⟨g,l,m,n,o,u⟩,r⟩:=a;refine ⟨⟨g,l,m,n,hx.nn' o,u⟩,⟨_,hx.cons _ _,r⟩,λ j b=>?_⟩;rw[Dj] at b;split at b
   . rename_i p;exact .inr (.inl (by rw[p]))
   . exact .inl b
 . refine WIf.mono a (λ a=>⟨a.1,⟨_,hx,a.2⟩,λ j b=> .inl b⟩) λ a=>?_;obtain ⟨⟨g,l,m,n,o,u⟩,r⟩:=a;refine ⟨⟨g,l,m,n,hx.nn' o,u⟩,⟨_,hx.cons _ _,r⟩,λ j b=>?_⟩;rw[Dj] at b;split at b
   . rename_i p;exact .inr (.inl (by rw[p]))
   . exact .inl b
 . rename_i id off len N;have hid:=v id A2;rw[hx.eq hid] at a;obtain ⟨I,a⟩:=VF a;refine Agk I ?_;split at a
   . exact ⟨a.1,⟨_,hx.Dn _ _,a.2⟩,Ih.Dn hid _⟩
   . exact a.elim
 . rename_i id i len Q;have hid:=v id A2;rw[hx.eq hid] at a;split at a
   . obtain ⟨⟨g,l,m,n,⟨w,y,z,B,E,H⟩,o⟩,r⟩:=a;refine ⟨⟨g,l,m,n,⟨w,y,z,B,E,hx.nn' H⟩,o⟩,⟨_,(hx.Dn _ _).cons _ _,r⟩,λ j b=>?_⟩;rw[Dj] at b;split at b
     . rename_i p;exact .inr (.inl (by rw[p]))
     . exact Ih.Dn hid _ j b
   . exact a.elim
 . exact a.elim
theorem Bhh(hx:HX e h h'){q:Nat}{t t2:AG}{id N:Nat}{x:D}(r:IG h (.E3 id N))(o:IG h x)(p:Me h){k:D×Hp->Prop}(a:(Vs P h' t t2 id N x).all k):(Vs P h t t2 id N x).all (Beh e h (some q) k):=by
 unfold Vs at*;split at a
 case h_2=>exact a.elim
 split at a
 case h_2=>exact a.elim
 rename_i s b;rw[hx.eq (o _ A2)] at b;have l:=p _ _ b _ (by simp only[AO.ids,D.ids];exact BF.2 rfl);split at a
 case h_2=>exact a.elim
 rename_i g n;rw[hx.eq l] at g;have m:=r id A2;rw[hx.eq m] at n;simp only[b,g,n, *];refine ⟨a.1,⟨_,(hx.Dn _ _).Dn _ _,a.2⟩,λ j f=> .inl ?_⟩;rw[DH] at f;split at f
 . rename_i i;rw[i];exact l
 . rw[DH] at f;split at f
   . rename_i i;rw[i];exact m
   . exact f
theorem Bkd(hx:HX e h h')(g:Me h){q:Nat}{t t2:AG}{s x:D}(f:IG h s)(a:IG h x){k:D×Hp->Prop}(b:(Aet P h' q t t2 s x).all k):(Aet P h q t t2 s x).all (Beh e h (some q) k):=by
 cases s<;>simp only[Aet] at*<;>first | exact Bhh hx f a g b | exact Bhf hx f a b
theorem Bgv(hx:HX e h h'){q:Nat}{t:AG}{s x:D}(f:IG h s)(b:IG h x){k:D×Hp->Prop}(a:(u9 P h' t s x).all k):(u9 P h t s x).all (Beh e h (some q) k):=False.elim a
theorem ZS(a b:Ai):E8 (a++b)=E8 a++E8 b:=by
 induction a with
 | nil=>rfl
 | cons d r f=>simp[E8,f]
theorem Arl{d:D}{cs:Ai}(a:d.stored=some cs):E8 cs=d.ids:=by
 unfold D.stored at a;split at a
 . cases a;cases d<;>simp[D.cells,D.ids,E8]
 . cases a
theorem Awk(hx:HX e h h'){t:AG}{m i v:D}(b:IG h m){k:Hp->Prop}(a:(VU P h' t m i v).all k):
   (VU P h t m i v).all (λ y=>(∃Hc,HX e y Hc/\k Hc)/\Ih none h y):=False.elim a
theorem Ak5(hx:HX e h h'){id i n:Nat}{v:D}(b:get h id≠none)(g:IG h v){k:Hp->Prop}(a:(IP h' id i n v).all k):
   (IP h id i n v).all (λ y=>(∃Hc,HX e y Hc/\k Hc)/\Ih none h y):=by
 unfold IP at*;split at a
 . rename_i q off len N;have f:=g q A2;rw[hx.eq f,hx.eq b] at a;split at a
   . refine ⟨a.1,⟨_,(hx.Dn _ _).Dn _ _,a.2⟩,(Ih.Dn b _).trans (Ih.Dn (R2.Dn _ _ _ _ f) _)⟩
   . exact a.elim
 . exact a.elim
theorem Aw4(hx:HX e h h')(r:Me h){t:AG}{a v:D}(m:IG h a)(p:IG h v){k:Hp->Prop}(b:(PF P h' t a v).all k):
   (PF P h t a v).all (λ y=>(∃Hc,HX e y Hc/\k Hc)/\Ih none h y):=by
 unfold PF at*;split at b
 case h_2=>exact b.elim
 split at b
 case h_2=>exact b.elim
 rename_i Ly;split at b
 . rename_i id off;have hid:=m id A2;rw[hx.eq hid] at b;split at b
   . exact ⟨b.1,⟨_,hx.Dn _ _,b.2⟩,Ih.Dn hid _⟩
   . exact b.elim
 . rename_i id i c N;have hid:=m id A2;refine Rs.DS (Rs.Dg (λ y f=>?_) (Ac7 hx r (λ j o=>p j (by rw[<-Arl Ly];exact o)) (Rs.all_bind b)));obtain ⟨⟨s,MM,f⟩,ZV,l⟩:=f;have Bs4:=(l id).2 hid;rw[MM.eq Bs4] at f;split at f
   . exact ⟨f.1,⟨_,MM.Dn _ _,f.2⟩,λ j o=>by
       rcases Ih.Dn (q:=none) Bs4 _ j o with g | g | g
       . exact .inl ((l j).1 g)
       . cases g
       . exact .inr (.inr g)⟩
   . exact f.elim
 . rename_i id i n;have hid:=m id A2;exact Rs.Ya (Rs.GD b).1 (Ak5 hx hid p (Rs.GD b).2)
 . exact b.elim
end
end Go.Am
namespace Go.Am
open Go
def isQ(o:Op):Bool:=
 match o with
 | .call c=>match c.callee with
   | .value _=>true
   | .builtin .append | .builtin .copy=>true
   | _=>false
 | .store _ _ _=>true
 | .slice _ _ _ _ _=>true
 | .buildSlice _ _ _=>true
 | .load _ _=>true
 | .mapUpdate _ _ _ _=>true
 | .indexAddr _ _ _=>true
 | _=>false
section
variable {P:AK} {e h h':Hp}
theorem Ma:∀(l T:Aq) (id:Nat),id∈Ig T l->id∈T∨id∈l
 | [],T,id,b=> .inl b
 | i::r,T,id,b=>by
   simp only[Ig] at b;split at b
   . rcases Ma r T id b with a | a
     . exact .inl a
     . exact .inr (by simp[a])
   . rcases Ma r _ id b with a | a
     . rcases BC.1 a with h2 | h2
       . exact .inl h2
       . simp only[BF] at h2;exact .inr (by simp[h2])
     . exact .inr (by simp[a])
theorem V0(g:Me h):∀(l:Aq) (id:Nat),id∈ML h l->get h id≠none
 | [],id,b=>by simp[ML] at b
 | i::r,id,b=>by
   simp only[ML,BC] at b;rcases b with a | a
   . cases f:get h i with
     | none=>rw[f] at a;simp at a
     | some o=>rw[f] at a;exact g i o f id a
   . exact V0 g r id a
theorem Aq7(l:Me h){ids:Aq}(n:∀id∈ids,get h id≠none):∀id∈FO h ids,get h id≠none:=by
 intro id k;unfold FO at k;simp only at k;rcases Ma _ _ _ k with a | a
 . rcases Ma _ _ _ a with f | f
   . rcases Ma _ _ _ f with h2 | h2
     . rcases Ma _ _ _ h2 with g | g
       . simp at g
       . exact n id g
     . exact V0 l _ _ h2
   . exact V0 l _ _ f
 . have m:∀j,id∈ghost h j->get h id≠none:=by
     intro j b;unfold ghost at b;split at b
     . rename_i i;simp only[BF] at b;subst b;rw[i];simp
     . simp at b
   simp only[V5,BC] at a;rcases a with a | a | a | a<;>exact m _ a
theorem Ao6(hx:HX e h h'){q:Nat}:∀(l:Hp),fresh q h' l->fresh q h l
 | [],_=>trivial
 | (j,_)::r,a=>⟨a.1.imp id λ b=>hx.nn' b,Ao6 hx r a.2⟩
theorem Bh6(hx:HX e h h')(w:∀id,get e id≠none->id<10000)(H:Me h){f:AH}{ds:Ai}(v:JI h ds){q:Nat}{k:D->Hp->Prop}(p:LD P h' f ds q k):
   LD P h f ds q (λ d y=>(∃Hc,HX e y Hc/\k d Hc)/\Ih none h y):=by
 have s:=Aq7 H v;have g:∀id∈FO h (E8 ds),(get h id).isSome=true:=λ id b=>by
   have:=s id b;cases B:get h id with
   | none=>exact (this B).elim
   | some o=>rfl
 unfold LD at*;rw[Ait hx w _ g] at p;obtain ⟨u,h2,n⟩:=p;refine ⟨u,BB.2 g,?_⟩;rw[Arj hx _ _ _ g] at n;refine n.mono λ h2 r ⟨z,E⟩=>⟨Ao6 hx h2 z,⟨_,Xi hx _ _ _,E⟩,?_⟩;intro i b;have key:∀(l:Hp),get (merge (FO h (E8 ds)) q h l) i≠none->get h i≠none∨some i=none∨10000<=i:=by
   intro l
   induction l with
   | nil=>intro a;exact .inl a
   | cons x r t=>
     obtain ⟨j,o⟩:=x;intro a;simp only[merge] at a;split at a
     . rename_i id hid;rw[DH] at a;by_cases m:i=id
       . subst m;unfold back at hid;split at hid
         . exact .inl (s i (Bt hid))
         . simp only[Bo] at hid;exact .inr (.inr AQ)
       . rw[if_neg m] at a;exact t a
     . exact t a
 exact key h2 b
theorem Bh4{env:Ar}{n:Nat}(hx:HX e h h')(s:Me h){f:AM}{args:AD}(o:IG h (ev ⟨env,h,n⟩ f))(m:∀x∈args,IG h (ev ⟨env,h,n⟩ x))
   {k:FuncId×Ai×Hp->Prop} (i:(KH ⟨env,h',n⟩ f args).all k):
   (KH ⟨env,h,n⟩ f args).all (λ y=>(∃Hc,HX e y.2.2 Hc/\k (y.1,y.2.1,Hc))/\JI y.2.2 y.2.1/\Me y.2.2/\HJ h y.2.2):=by
 have p:ev ⟨env,h',n⟩=ev ⟨env,h,n⟩:=funext λ _=>rfl;unfold KH at*;rw[p] at i;have Ng:JI h (args.map (ev ⟨env,h,n⟩)):=by
   intro id b;clear i
   induction args with
   | nil=>simp[E8] at b
   | cons x r t=>
     simp only[B4,E8,BC] at b;rcases b with a | a
     . exact m x AT id a
     . exact t (λ y l=>m y (by simp[l])) a
 split at i
 . rename_i g cap q;rw[q] at o;have FE:JI h (args.map (ev ⟨env,h,n⟩)++cap):=by
     intro id b;rw[ZS,BC] at b;rcases b with a | a
     . exact Ng id a
     . exact o id a
   refine Rs.DS (Rs.Dg (λ y l=>?_) (Uw hx s FE (Rs.all_bind i)));obtain ⟨⟨a,MM,h2⟩,Ti,ZV,j⟩:=l;exact ⟨h2.1,⟨a,MM,h2.2⟩,j.Auk.2 Ti,ZV,j⟩
 . exact i.elim
theorem EW(st:St)(t:Option Nat)(d:D):(st.put t d).hp=st.hp:=by
 cases t with
 | none=>rfl
 | some t=>simp only[St.put];split<;>rfl
theorem Xf{K:St->Prop}{env:Ar}{n:Nat}{dst:Option Nat}(y h2:Hp)(d:D)(a:K ((⟨env,h2,n⟩:St).put dst d)):K {(⟨env,y,n⟩:St).put dst d with hp:=h2}:=by
 cases dst with
 | none=>exact a
 | some t=>
   simp only[St.put] at a ⊢;split
   . rename_i b;rw[if_pos b] at a;exact a
   . rename_i b;rw[if_neg b] at a;exact a
theorem Bav(d:D):E8 d.cells=d.ids:=by cases d<;>simp[D.cells,D.ids,E8]
theorem Acy{l:Ai}{d:D}(h:d∈l):∀i∈d.ids,i∈E8 l:=by
 induction l with
 | nil=>cases h
 | cons x r b=>
   intro i a;simp only[E8,BC];rcases BU.1 h with rfl | h
   . exact .inl a
   . exact .inr (b h i a)
theorem YO{l:Ai}{i:Nat}:i∈E8 l->∃d∈l,i∈d.ids:=by
 induction l with
 | nil=>intro h;simp[E8] at h
 | cons x r f=>
   intro h;simp only[E8,BC] at h;rcases h with h | h
   . exact ⟨x,AT,h⟩
   . obtain ⟨d,a,b⟩:=f h;exact ⟨d,by simp[a],b⟩
theorem Adf{h:Hp}{place:Nat->Option (Nat×Nat)}:∀(j:Ar) (cells cs:Ai),(∀x∈j,IG h x.2)->JI h cells->J2 place cells j=some cs->JI h cs
 | [],cells,cs,_,b,a=>by simp only[J2,Bo] at a;subst a;exact b
 | (i,d)::r,cells,cs,g,b,a=>by
   simp only[J2] at a;split at a
   . cases a
   . split at a
     . refine Adf r _ cs (λ x hx=>g x (by simp[hx])) ?_ a;intro id k;obtain ⟨l,J9,H8⟩:=YO k;rcases BC.1 J9 with f | f
       . rcases BC.1 f with h2 | h2
         . exact b id (Acy (CB h2) id H8)
         . have:=Acy h2 id H8;rw[Bav] at this;exact g (i,d) AT id this
       . exact b id (Acy (List.mem_of_mem_drop f) id H8)
     . cases a
theorem Afl(hx:HX e h h'){t:AG}{x i:D}(f:IG h x):HN P t x i h'=HN P t x i h:=by
 cases x with
 | ref id a b c=>
   have:sg h' id=sg h id:=by simp only[sg,hx.eq (f id A2)]
   simp only[HN,this]
 | p y=>cases y<;>rfl
 | _=>rfl
theorem Bmn{env:Ar}{n:Nat}(hx:HX e h h')(he:∀id,get e id≠none->id<10000)(Y:Me h){o:Oper}(U:isQ o.op=true)(H:∀x∈o.op.operands.toList,IG h (ev ⟨env,h,n⟩ x)){K:St->Prop}(g:Yu P false o K ⟨env,h',n⟩):
   Yu P false o (λ st=>(∃Hc,HX e st.hp Hc/\K {st with hp:=Hc})/\Ih (some (o.dst.getD 0)) h st.hp) ⟨env,h,n⟩:=by
 have Q:ev ⟨env,h',n⟩=ev ⟨env,h,n⟩:=funext λ _=>rfl;unfold Yu at*;split at g
 . rename_i f args I;rcases Rs.Jn g with g | g
   case inr=>exact (BV g.1).elim
   have QV:(∀x∈f::args,x∈o.op.operands.toList):=by
     unfold Ez at I;split at I
     case h_2=>cases I
     rename_i cl PV;split at I
     case h_2=>cases I
     rename_i f' a1;simp only[Bo,Cs] at I;obtain ⟨rfl,rfl⟩:=I;intro x V;rw[PV];simp[Op.operands,Call.operands,a1] at V ⊢;exact V
   simp only[RB] at g ⊢;refine Rs.Ie (Rs.Dg (λ x KL=>?_) (Bh4 hx Y (H f (QV f AT)) (λ x w=>H x (QV x (by simp[w]))) g));obtain ⟨⟨B,MM,I⟩,Ti,ZV,a2⟩:=KL;refine Wm (λ d y u=>?_) (Bh6 MM he ZV Ti I);obtain ⟨⟨h2,KL,E⟩,Sa⟩:=u;refine ⟨⟨h2,by rw[EW];exact KL,Xf _ _ _ E⟩,λ i j=>?_⟩;rw[EW] at j;rcases Sa i j with k | k | k
   . exact .inl ((a2 i).1 k)
   . cases k
   . exact .inr (.inr k)
 . rcases Rs.Jn g with g | g
   case inr=>exact (BV g.1).elim
   have fin:∀{r:Rs (D×Hp)},r.all (Beh e h (some (o.dst.getD 0)) λ x=>K ((⟨env,x.2,n⟩:St).put o.dst x.1))->
       r.OF (false=true/\Vu P o (λ st=>(∃Hc,HX e st.hp Hc/\K {st with hp:=Hc})/\Ih (some (o.dst.getD 0)) h st.hp) ⟨env,h,n⟩) (λ x=>(λ st:St=>(∃Hc,HX e st.hp Hc/\K {st with hp:=Hc})/\Ih (some (o.dst.getD 0)) h st.hp) ((⟨env,x.2,n⟩:St).put o.dst x.1)):=λ hr=>
     Rs.Ie (Rs.Dg (λ x KL=>by
       obtain ⟨⟨B,MM,E⟩,Sa⟩:=KL;exact ⟨⟨B,by rw[EW];exact MM,Xf _ _ _ E⟩,by rw[EW];exact Sa⟩) hr)
   refine fin ?_;cases QV:o.op with
   | call cl=>
     cases PV:cl.callee with
     | builtin b=>
       cases b<;>rw[QV] at U<;>simp only[isQ,PV,BY] at U
       . simp only[Ps,QV,PV,Q] at g ⊢;have Ng:∀x∈cl.args.toList,IG h (ev ⟨env,h,n⟩ x):=λ x w=>H x (by rw[QV];simp[Op.operands,Call.operands,PV];simpa using w);generalize hl:cl.args.toList.map (ev ⟨env,h,n⟩)=l at g ⊢;rcases l with _ | ⟨s,_ | ⟨x,_ | ⟨z,r⟩⟩⟩
         . exact g.elim
         . cases s<;>first | exact g.elim | (rename_i z;cases z<;>exact g.elim)
         . obtain ⟨S,T,I3,rfl,rfl⟩:=MJ hl;have R:∀W:Hp,Ib P ⟨env,W,n⟩ (o.dst.getD 0) .append cl.argTypes [ev ⟨env,h,n⟩ S,ev ⟨env,h,n⟩ T]=match cl.argTypes[0]?,cl.argTypes[1]? with
             | some t,some t2=>Aet P W (o.dst.getD 0) t t2 (ev ⟨env,h,n⟩ S) (ev ⟨env,h,n⟩ T)
             | _,_=> .fail:=λ _=>rfl
           rw[R] at g ⊢;split at g
           . rename_i t t2 B h2;exact Bkd hx Y (Ng S (by rw[I3];simp)) (Ng T (by rw[I3];simp)) g
           . exact g.elim
         . first | exact g.elim | (cases s<;>first | exact g.elim | (rename_i Z;cases Z<;>exact g.elim))
       . simp only[Ps,QV,PV,Q] at g ⊢;have Ng:∀x∈cl.args.toList,IG h (ev ⟨env,h,n⟩ x):=λ x w=>H x (by rw[QV];simp[Op.operands,Call.operands,PV];simpa using w);generalize hl:cl.args.toList.map (ev ⟨env,h,n⟩)=l at g ⊢;rcases l with _ | ⟨s,_ | ⟨x,_ | ⟨z,r⟩⟩⟩
         . exact g.elim
         . cases s<;>first | exact g.elim | (rename_i z;cases z<;>exact g.elim)
         . obtain ⟨S,T,I3,rfl,rfl⟩:=MJ hl;have R:∀W:Hp,Ib P ⟨env,W,n⟩ (o.dst.getD 0) .copy cl.argTypes [ev ⟨env,h,n⟩ S,ev ⟨env,h,n⟩ T]=match cl.argTypes[0]?,cl.argTypes[1]? with
             | some t,some _=>u9 P W t (ev ⟨env,h,n⟩ S) (ev ⟨env,h,n⟩ T)
             | _,_=> .fail:=λ _=>rfl
           rw[R] at g ⊢;split at g
           . rename_i t t2 B h2;exact Bgv hx (Ng S (by rw[I3];simp)) (Ng T (by rw[I3];simp)) g
           . exact g.elim
         . first | exact g.elim | (cases s<;>first | exact g.elim | (rename_i Z;cases Z<;>exact g.elim))
     | _=>rw[QV] at U;rename_i I _;simp only[isQ,PV,BY] at U<;>simp_all [Ez]
   | store t a v=>
     simp only[Ps,QV,Rn,FM,MI,Q] at g ⊢;have B:=Aw4 hx Y (H a (by rw[QV];simp[Op.operands])) (H v (by rw[QV];simp[Op.operands])) (Rs.all_bind g);refine Rs.DS (Rs.Dg (λ y u=>?_) B);obtain ⟨⟨h2,KL,E⟩,Sa⟩:=u;refine ⟨E.1,⟨h2,KL,E.2⟩,λ i j=>?_⟩;rcases Sa i j with k | k | k
     . exact .inl k
     . cases k
     . exact .inr (.inr k)
   | slice t x lo j mx=>
     have hp:=H x (by rw[QV];simp[Op.operands]);have a8:LV P ⟨env,h',n⟩ t (ev ⟨env,h,n⟩ x) lo j mx=LV P ⟨env,h,n⟩ t (ev ⟨env,h,n⟩ x) lo j mx:=by
       have hb:∀o d,GY ⟨env,h',n⟩ o d=GY ⟨env,h,n⟩ o d:=λ o d=>by cases o<;>rfl
       generalize ev ⟨env,h,n⟩ x=d at hp;unfold LV;simp only[hb];rcases Dz P t with _ | ⟨s1,b1,k1,Z⟩
       . rfl
       cases k1 with
       | string=>cases d with
         | p y=>cases y<;>rfl
         | _=>rfl
       | slice e=>
         simp only;cases Dz P e with
         | none=>rfl
         | some ti=>cases d with
           | p y=>cases y<;>rfl
           | ref id off len N=>
             have:sg h' id=sg h id:=by simp only[sg,hx.eq (hp id A2)]
             simp only[this]
           | _=>rfl
       | _=>rfl
     simp only[Ps,QV,NM,Q] at g ⊢;rw[a8] at g;have B:=Rs.all_bind g;refine Rs.DS (Rs.Dg (λ y u=>?_) B);exact ⟨u.1,⟨h',hx,u.2⟩,Ih.refl _ _⟩
   | buildSlice t n2 ps=>
     have a6:∀x∈ps.toList.map (λ q=>(q.1,ev ⟨env,h,n⟩ q.2)),IG h x.2:=λ x w=>by
       obtain ⟨q,a7,rfl⟩:=BS.1 w;exact H q.2 (by rw[QV];simp[Op.operands];exact ⟨q.1,by simpa using a7⟩)
     simp only[Ps,QV] at g ⊢;have a3:FM ⟨env,h',n⟩ (.buildSlice t n2 ps)=FM ⟨env,h,n⟩ (.buildSlice t n2 ps):=rfl;unfold Rn at g ⊢;rw[a3] at g;split at g
     . rename_i t7 d7 h7;unfold Ah9 at g ⊢;split at g
       case h_2=>exact g.elim
       split at g
       case h_2=>exact g.elim
       refine ⟨hx.nn' g.1,⟨_,hx.cons _ _,g.2⟩,λ i j=>?_⟩;rw[Dj] at j;split at j
       . rename_i ej;exact .inr (.inl (by rw[ej]))
       . exact .inl j
     simp only[MI,Q] at g ⊢;split at g
     . split at g
       . split at g
         . rename_i cs a0;have a5:JI h cs:=Adf _ _ _ a6 (λ id j=>by
             obtain ⟨d2,J9,H8⟩:=YO j;rw[List.mem_replicate] at J9;rw[J9.2] at H8;simp[D.ids] at H8) a0
           split at g
           . exact g.elim
           rename_i a4;rw[if_neg a4];refine Rs.DS (Rs.Dg (λ y u=>?_) (Ac7 hx Y a5 (Rs.all_bind g)));obtain ⟨⟨h2,KL,E⟩,a9,Sc⟩:=u;refine ⟨⟨E.1.1,E.1.2.1,KL.nn' E.1.2.2⟩,⟨_,KL.cons _ _,E.2⟩,λ i j=>?_⟩;rw[Dj] at j;split at j
           . rename_i ej;exact .inr (.inl (by rw[ej]))
           . exact .inl ((Sc i).1 j)
         . exact g.elim
       . exact g.elim
     . exact g.elim
   | mapUpdate t m i x=>
     simp only[Ps,QV,Rn,FM,MI,Q] at g ⊢;have B:=Awk hx (H m (by rw[QV];simp[Op.operands])) (Rs.all_bind g);refine Rs.DS (Rs.Dg (λ y u=>?_) B);obtain ⟨⟨h2,KL,E⟩,Sa⟩:=u;refine ⟨E.1,⟨h2,KL,E.2⟩,λ i j=>?_⟩;rcases Sa i j with k | k | k
     . exact .inl k
     . cases k
     . exact .inr (.inr k)
   | load t a=>
     have hp:=H a (by rw[QV];simp[Op.operands]);simp only[Ps,QV,NM,Q] at g ⊢;rw[Bcz hx hp] at g;have B:=Rs.all_bind g;refine Rs.DS (Rs.Dg (λ y u=>?_) B);exact ⟨u.1,⟨h',hx,u.2⟩,Ih.refl _ _⟩
   | indexAddr t x i=>
     have hp:=H x (by rw[QV];simp[Op.operands]);simp only[Ps,QV,NM,Q] at g ⊢;rw[Afl hx hp] at g;have B:=Rs.all_bind g;refine Rs.DS (Rs.Dg (λ y u=>?_) B);exact ⟨u.1,⟨h',hx,u.2⟩,Ih.refl _ _⟩
   | _=>rw[QV] at U;simp[isQ] at U
end
end Go.Am
namespace Go.Am
open Go
mutual
def Bor (h:Hp):D->D->Prop
  | .p x,d=>d= .p x
  | .cl es,d=>d= .p (.sl es)
  | .ref id off len N,d=>match get h id with
    | some (.arr _ _ es)=>N=es.length/\d= .p (.sl ((es.drop off).take len))
    | some (.Oh _ es)=>N=es.length/\d= .p (.sl ((es.drop off).take len))
    | _=>False
  | .E3 id n,d=>match get h id with
    | some (.Fc _ _ _ _ rows none)=>n=rows.length/\d= .p (.sl (rows.map λ r=>[.sl r]))
    | _=>False
  | .nr id i len k,d=>match get h id with
    | some (.Fc _ _ _ k2 rows none)=>(k=k2/\i<rows.length/\len=(rows.getD i []).length)/\d= .p (.sl (rows.getD i []))
    | _=>False
  | .agg cs,.agg cs'=>OI h cs cs'
  | .fn f cap,.fn f' Bh3=>f'=f/\OI h cap Bh3
  | _,_=>False
def OI (h:Hp):Ai->Ai->Prop
  | [],[]=>True
  | d::r,d'::r'=>Bor h d d'/\OI h r r'
  | _,_=>False
end
def D.Ahj:D->Bool
 | .p x=>x.flat
 | _=>false
def D.flat:D->Bool
 | .p x=>x.flat
 | .Em cs=>cs.all D.Ahj
 | .agg cs=>cs.all D.Ahj
 | _=>false
mutual
def D.Lw:D->D
  | .p x=>if x.flat then .p x else .WE
  | .agg cs=> .agg (M6 cs)
  | .Em cs=> .Em (M6 cs)
  | _=> .bad
def M6:Ai->Ai
  | []=>[]
  | d::r=>d.Lw::M6 r
end
mutual
def D.LX (q:Nat):D->D
  | .p x=>if x.flat then .p x else .WE
  | .ref id off len N=>if id=0 then .ref q off len N else .bad
  | .agg cs=> .agg (Mm q cs)
  | .Em cs=> .Em (Mm q cs)
  | _=> .bad
def Mm (q:Nat):Ai->Ai
  | []=>[]
  | d::r=>d.LX q::Mm q r
end
theorem S1(q):∀cs:Ai,(Mm q cs).length=cs.length
 | []=>rfl
 | _::r=>by simp[Mm,S1 q r]
theorem S2(q):∀(cs:Ai) (i:Nat),(Mm q cs)[i]?=(cs[i]?).map (D.LX q)
 | [],i=>by simp[Mm]
 | d::r,0=>by simp[Mm]
 | d::r,i+1=>by simp[Mm,S2 q r i]
theorem VI:∀cs:Ai,(M6 cs).length=cs.length
 | []=>rfl
 | _::r=>by simp[M6,VI r]
theorem VJ:∀(cs:Ai) (i:Nat),(M6 cs)[i]?=(cs[i]?).map D.Lw
 | [],i=>by simp[M6]
 | d::r,0=>by simp[M6]
 | d::r,i+1=>by simp[M6,VJ r i]
theorem ZI:∀{d:D},d.Ahj=true->d.Lw=d
 | .p x,h=>by simp only[D.Ahj] at h;simp[D.Lw,h]
 | .agg _,h | .Em _,h | .cl _,h | .cz _,h | .ref _ _ _ _,h | .ptr _ _,h | .pe _,h | .ea _ _ _ _,h | .fn _ _,h | .np,h | .mv _,h | .E3 _ _,h | .R9 _ _ _,h | .nr _ _ _ _,h | .WE,h | .bad,h=>by simp[D.Ahj] at h
theorem S0:∀{cs:Ai},cs.all D.Ahj=true->M6 cs=cs
 | [],_=>rfl
 | d::r,h=>by
   simp only[List.all_cons,Bz] at h;simp[M6,ZI h.1,S0 h.2]
theorem Abs{d:D}(h:d.flat=true):d.Lw=d:=by
 cases d with
 | p x=>exact ZI h
 | agg cs=>simp only[D.flat] at h;simp[D.Lw,S0 h]
 | Em cs=>simp only[D.flat] at h;simp[D.Lw,S0 h]
 | _=>simp[D.flat] at h
section
variable {F F':Nat->Prop} {w w':AI} {M M':Nat->Mb} {s s':Nat->Option Sg} {h h' e:Hp}
theorem DR.Lw{d:D}{v:AJ}(y:DR F w M s d v):DR F' w' M' s' d.Lw v:=by
 induction y with
 | p r=>
   simp only[D.Lw];split
   . rename_i q;cases r with
     | int k n=>exact .p (.int k n)
     | bool b=>exact .p (.bool b)
     | str l=>exact .p (.str l)
     | ifi t k n=>exact .p (.ifi t k n)
     | ifs t l=>exact .p (.ifs t l)
     | sl0 a cap=>simp[Pd.flat] at q
     | sl z b off cap E row t B _ _ _ _ _ _=>simp[Pd.flat] at q
   . exact .WE _ r.Mn
 | agg cs o j u m=>
   simp only[D.Lw];refine .agg _ o (by rw[VI];exact j) λ i c f=>?_;rw[VJ] at f;cases g:cs[i]? with
   | none=>rw[g] at f;cases f
   | some x=>rw[g] at f;cases f;exact m i x g
 | Em cs o j u m=>
   simp only[D.Lw];refine .Em _ o (by rw[VI];exact j) λ i c f=>?_;rw[VJ] at f;cases g:cs[i]? with
   | none=>rw[g] at f;cases f
   | some x=>rw[g] at f;cases f;exact m i x g
 | _=>simp only[D.Lw];exact .bad _
theorem DR.LX{d:D}{v:AJ}{q sz n:Nat}(I:DR F w M s d v)(h0:s 0=some (.arr sz n))(H:s' q=some (.arr sz n))(z:M' q=M 0):DR F' w' M' s' (d.LX q) v:=by
 induction I with
 | p y=>
   simp only[D.LX];split
   . rename_i u;cases y with
     | int k n=>exact .p (.int k n)
     | bool b=>exact .p (.bool b)
     | str l=>exact .p (.str l)
     | ifi t k n=>exact .p (.ifi t k n)
     | ifs t l=>exact .p (.ifs t l)
     | sl0 a cap=>simp[Pd.flat] at u
     | sl Q b off cap sz row t R _ _ _ _ _ _=>simp[Pd.flat] at u
   . exact .WE _ y.Mn
 | agg cs r j E o=>
   simp only[D.LX];refine .agg _ r (by rw[S1];exact j) λ i c f=>?_;rw[S2] at f;cases g:cs[i]? with
   | none=>rw[g] at f;cases f
   | some x=>rw[g] at f;cases f;exact o i x g
 | Em cs r j E o=>
   simp only[D.LX];refine .Em _ r (by rw[S1];exact j) λ i c f=>?_;rw[S2] at f;cases g:cs[i]? with
   | none=>rw[g] at f;cases f
   | some x=>rw[g] at f;cases f;exact o i x g
 | ref id off len N ZC S v m B K h=>
   simp only[D.LX];split
   . rename_i e;subst e;rw[h0] at m;simp only[Bo,Sg.arr.injEq] at m;obtain ⟨rfl,rfl⟩:=m;exact .ref q off len N _ _ v H B K (λ e=>by rw[z];exact h e)
   . exact .bad _
 | _=>simp only[D.LX];exact .bad _
theorem PR.Bsq{x:Pd}{v:AJ}(f:x.flat=true)(h:PR F w x v):PR F' w' x v:=by
 cases h with
 | int k n=>exact .int k n
 | bool b=>exact .bool b
 | str l=>exact .str l
 | ifi t k n=>exact .ifi t k n
 | ifs t l=>exact .ifs t l
 | sl0 a cap=>simp[Pd.flat] at f
 | sl g b off cap j row t i _ _ _ _ _ _=>simp[Pd.flat] at f
def Aj1(F:Nat->Prop)(M:Nat->Mb)(h:Hp):Nat->Prop:=λ b=>F b∨Hn M h b
mutual
theorem Bbm (hr:HR F w M h):∀(d d':D) {v:AJ},DR F w M (sg h) d v->Bor h d d'->DR (Aj1 F M h) w M (sg []) d' v
  | .p x,d',v,hd,hb=>by
    simp only[Bor] at hb;subst hb;cases hd with | p hp=>exact .p (hp.keep (λ _ _=>rfl) λ b hb=> .inl hb)
  | .cl es,d',v,hd,hb=>by
    simp only[Bor] at hb;subst hb;cases hd with | cl _ ad hp _=>exact .p (hp.keep (λ _ _=>rfl) λ b hb=> .inl hb)
  | .ref id off len N,d',v,hd,hb=>by
    simp only[Bor] at hb;cases hd with | ref _ _ _ _ sz n _ hs hN hv hx=>
      split at hb
      . rename_i t ZC es ho;obtain ⟨hb1,rfl⟩:=hb;have:ZC=sz/\es.length=n:=by simpa [sg,ho,AO.sg] using hs
        obtain ⟨rfl,rfl⟩:=this;exact .p (O5 (st:=⟨[],h,0⟩) hr (.inl ⟨t,ho⟩) rfl (hx hb1) (λ b hb=> .inl hb) λ hc=> .inr ⟨id,_,ho,hc,rfl⟩)
      . rename_i ZC es ho;obtain ⟨hb1,rfl⟩:=hb;have:ZC=sz/\es.length=n:=by simpa [sg,ho,AO.sg] using hs
        obtain ⟨rfl,rfl⟩:=this;have hob:=hr.obj id _ ho;exact .p (O5 (st:=⟨[],h,0⟩) hr (.inr ho) rfl (hx hb1) (λ b hb=> .inl hb) λ hc=> .inl (hob.2.2.2 hc).1)
      . exact hb.elim
  | .E3 id n,d',v,hd,hb=>by
    simp only[Bor] at hb;cases hd with | E3 _ _ sz m k _ hs hN hv hx=>
      split at hb
      . rename_i t e2 ZC k2 rows ho;obtain ⟨hb1,rfl⟩:=hb;have:ZC=sz/\rows.length=m/\k2=k:=by simpa [sg,ho,AO.sg] using hs
        obtain ⟨rfl,rfl,rfl⟩:=this;refine .p ((WB (st:=⟨[],h,0⟩) hr ho (by have:=hx hb1;rwa[hb1] at this)).keep (λ _ _=>rfl) λ b hb=>?_);rcases hb with hb | hb
        . exact .inl hb
        . exact .inr ⟨id,_,ho,hb⟩
      . exact hb.elim
  | .nr id i len q,d',v,hd,hb=>by
    simp only[Bor] at hb;cases hd with | nr _ _ _ _ sz m k _ hs hN hv hx=>
      split at hb
      . rename_i t e2 ZC k2 rows ho;obtain ⟨⟨hb1,hb2,hb3⟩,rfl⟩:=hb;have:ZC=sz/\rows.length=m/\k2=k:=by simpa [sg,ho,AO.sg] using hs
        obtain ⟨rfl,rfl,rfl⟩:=this;obtain ⟨bc,g1,g2,a,g3,g4⟩:=hx hb1;have hn:MV F w (M id) t e2 ZC rows none:=hr.obj id _ ho;have hg:rows[i]?=some (rows.getD i []):=by simp[List.getD,hb2]
        subst g3;rw[hb3];exact .p ((hn.rows i _ bc hg g1 AT).pure (λ b hb=> .inl hb) (λ hc=> .inr ⟨id,_,ho,.inr ⟨i,bc,g1,hc,rfl⟩⟩) g4)
      . exact hb.elim
  | .agg cs,.agg cs',v,hd,hb=>by
    simp only[Bor] at hb;cases hd with | agg _ vs hl hc=>
      have h1:=RL hr cs cs' (vs:=vs.toList) (by simpa using hl) (λ i e he=>by have:=hc i e he;simpa [List.getD,Array.getD_eq_getD_getElem?] using this) hb;exact .agg _ vs (by have:=h1.1;simpa using this) (λ i e he=>by have:=h1.2 i e he;simpa [List.getD,Array.getD_eq_getD_getElem?] using this)
  | .fn f cap,.fn f' Bh3,v,hd,hb=>by
    simp only[Bor] at hb;obtain ⟨rfl,hb⟩:=hb;cases hd with | fn _ _ vs hl hc=>
      have h1:=RL hr cap Bh3 (vs:=vs.toList) (by simpa using hl) (λ i e he=>by have:=hc i e he;simpa [List.getD,Array.getD_eq_getD_getElem?] using this) hb;exact .fn _ _ vs (by have:=h1.1;simpa using this) (λ i e he=>by have:=h1.2 i e he;simpa [List.getD,Array.getD_eq_getD_getElem?] using this)
theorem RL (hr:HR F w M h):∀(ds Yn:Ai) {vs:At},vs.length=ds.length->(∀(i:Nat) c,ds[i]?=some c->DR F w M (sg h) c (vs.getD i undef))->OI h ds Yn->Nk (Aj1 F M h) w M (sg []) Yn vs
  | [],[],vs,hl,_,_=>⟨hl,λ i c hi=>by simp at hi⟩
  | d::r,d'::r',vs,hl,hc,hb=>by
    simp only[OI] at hb;rcases vs with _ | ⟨x,vs⟩
    . simp at hl
    have h0:=Bbm hr d d' (v:=x) (by simpa using hc 0 d rfl) hb.1;have h1:=RL hr r r' (vs:=vs) (by simpa using hl) (λ i c hi=>by simpa using hc (i+1) c (by simpa using hi)) hb.2;refine ⟨by simp[h1.1],λ i c hi=>?_⟩;rcases i with _ | i
    . simp at hi;subst hi;simpa using h0
    . simpa using h1.2 i c (by simpa using hi)
end
mutual
theorem Bbn:∀(d d':D),(∀id∈d.ids,get h' id=get h id)->Bor h d d'->Bor h' d d'
  | .p x,d',_,hb=>by simp only[Bor] at hb ⊢;exact hb
  | .cl es,d',_,hb=>by simp only[Bor] at hb ⊢;exact hb
  | .ref id off len N,d',hg,hb=>by simp only[Bor] at hb ⊢;rw[hg id A2];exact hb
  | .E3 id n,d',hg,hb=>by simp only[Bor] at hb ⊢;rw[hg id A2];exact hb
  | .nr id i len q,d',hg,hb=>by simp only[Bor] at hb ⊢;rw[hg id A2];exact hb
  | .agg cs,.agg cs',hg,hb=>by simp only[Bor] at hb ⊢;exact OH cs cs' (λ id hi=>hg id (by simpa [D.ids] using hi)) hb
  | .fn f cap,.fn f' Bh3,hg,hb=>by simp only[Bor] at hb ⊢;exact ⟨hb.1,OH cap Bh3 (λ id hi=>hg id (by simpa [D.ids] using hi)) hb.2⟩
theorem OH:∀(ds Yn:Ai),(∀id∈E8 ds,get h' id=get h id)->OI h ds Yn->OI h' ds Yn
  | [],[],_,_=>by simp only[OI]
  | d::r,d'::r',hg,hb=>by
    simp only[OI] at hb ⊢;exact ⟨Bbn d d' (λ id hi=>hg id (by simp[E8,hi])) hb.1,OH r r' (λ id hi=>hg id (by simp[E8,hi])) hb.2⟩
end
end
def Te(dst:Option Nat):Nat:=10000+dst.getD 0
def St.made(st:St)(dst:Option Nat)(a:AO)(r:D):St:=({st with hp:=(Te dst,a)::st.hp}:St).put dst (r.LX (Te dst))
def Btw(dst:Option Nat)(K:St->Prop)(st:St)(h:Hp)(r:D):Prop:=
 (h=[]/\K (st.put dst r.Lw))∨∃t b a,h=[(0,.arr t b a)]/\(∀e∈a,∀c∈e,c.flat=true)/\get st.hp (Te dst)=none/\K (st.made dst (.arr t b a) r)
def Af0(P:AK)(o:Oper)(K:St->Prop)(st:St):Prop:=
 ∃(f:AM) (args:AD) (g:AH) (cap a:Ai),Ez o.op=some (f,args)/\ev st f= .fn g cap/\OI st.hp (args.map (ev st)++cap) a/\
   C3 P g a [] (Btw o.dst K st)
section
variable {P:AK} {c:Ctx} {st st':St} {a:Act} {w:AI} {F:Nat->Prop} {M:Nat->Mb} {o:Oper} {K K':St->Prop}
theorem Rel.Awr(e:Rel c st a w F M){v:AJ}{w':AI}{F':Nat->Prop}{M':Nat->Mb}{d:D}(j:DR F' w' M' (sg []) d v)(f:Au5 ⟨w,Aj1 F M st.hp,Hn M [],M,sg []⟩ w' F' M' []):
   Rel c st a w' F M/\DR F w' M (sg st.hp) d.Lw v:=by
 have Xr:∀b,¬Hn M [] b:=by rintro b ⟨id,o,k,_⟩;simp[get] at k
 have hold:∀b,b<w.heap.size->w'.heap[b]?=w.heap[b]?:=λ b hb=>f.Ua b hb (Xr b);have HK:w.heap.size<=w'.heap.size:=f.size;have i:∀b,F b->w'.heap[b]?=w.heap[b]?:=λ b hb=>hold b (e.keep.Fl b hb);have g:∀b,Hn M st.hp b->w'.heap[b]?=w.heap[b]?:=λ b hb=>hold b (e.heap.lt hb);refine ⟨⟨λ t d l=>(e.env t d l).keep i (λ _ h=>h) (Ea.refl _ _),e.size,e.defers,e.heap.keep i g,?_⟩,j.Lw⟩;have Lo:=e.keep;exact ⟨f.os.trans Lo.os,f.tape.trans Lo.tape,f.output.trans Lo.output,CF Lo.size HK,λ b hb g=>(hold b (Nat.lt_of_lt_of_le hb Lo.size)).trans (Lo.Ua b hb g),Lo.F0,Lo.Fn,
   λ b hb=>Nat.lt_of_lt_of_le (Lo.Fl b hb) HK,Lo.own,Lo.sgk,Lo.s0b⟩
theorem Rel.Brd(T:Rel c st a w F M){v:AJ}{w':AI}{F':Nat->Prop}{M':Nat->Mb}{d:D}{q sz:Nat}{t:AG}{es:Ag}(S:get st.hp q=none)(N:∀e∈es,∀c∈e,c.flat=true)
   (Q:HR F' w' M' [(0,.arr t sz es)]) (I:DR F' w' M' (sg [(0,.arr t sz es)]) d v) (f:Au5 ⟨w,Aj1 F M st.hp,Hn M [],M,sg []⟩ w' F' M' [(0,.arr t sz es)]):
   ∃M2,Rel c {st with hp:=(q,.arr t sz es)::st.hp} a w' F M2/\DR F w' M2 (sg ((q,AO.arr t sz es)::st.hp)) (d.LX q) v:=by
 have Xr:∀b,¬Hn M [] b:=by rintro b ⟨id,o,R,_⟩;simp[get] at R
 have hold:∀b,b<w.heap.size->w'.heap[b]?=w.heap[b]?:=λ b hb=>f.Ua b hb (Xr b);have HK:w.heap.size<=w'.heap.size:=f.size;have l:=Q.obj 0 _ rfl;have Dr:∀j,get ((q,AO.arr t sz es)::st.hp) j=if j=q then some (.arr t sz es) else get st.hp j:=λ j=>by rw[Dj];by_cases e:q=j<;>simp[e,eq_comm]
 let M2:Nat->Mb:=λ j=>if j=q then M' 0 else M j
 have k:∀j,j≠q->M2 j=M j:=λ j e=>by simp[M2,e]
 have Mo:M2 q=M' 0:=by simp[M2]
 refine ⟨M2,T.change (M':=M2) Dr k (Je Dr k S) f.os f.tape f.output HK (λ b hb _=>hold b hb) ?_ (λ b hb=>?_),?_⟩
 . rw[Mo];obtain ⟨g,h2,p,r,s⟩:=l;refine ⟨g,h2,p,r,λ H=>?_⟩;obtain ⟨u,row,y,z,B⟩:=s H;exact ⟨λ E=>u (f.F0 _ (.inl E)),row,y,z,λ i e j x m hx=>(B i e j x m hx).Bsq (N e (Bt m) x (Bt hx))⟩
 . rw[Mo] at hb;rcases f.own b ⟨0,_,rfl,hb⟩ with g | g
   . exact (Xr b g).elim
   . exact .inr g
 . exact I.LX (sz:=sz) (n:=es.length) (by simp[sg,get,AO.sg]) (by simp[sg,get,AO.sg]) Mo
theorem Aey(g:Rel c st a w F M){v:AJ}{w':AI}{F':Nat->Prop}{M':Nat->Mb}{d:D}{h:Hp}{dst:Option Nat}{K:St->Prop}(hb:Btw dst K st h d)(j:HR F' w' M' h)(e:DR F' w' M' (sg h) d v)
   (f:Au5 ⟨w,Aj1 F M st.hp,Hn M [],M,sg []⟩ w' F' M' h):Good c K (a.put dst v) w':=by
 rcases hb with ⟨rfl,b⟩ | ⟨t,m,l,rfl,i,k,b⟩
 . obtain ⟨JE,J9⟩:=g.Awr e f;exact ⟨_,F,M,b,JE.put J9 dst⟩
 . obtain ⟨M2,JE,J9⟩:=g.Brd k i j e f;exact ⟨_,F,M2,b,JE.put J9 dst⟩
theorem RJ(l:Rel c st a w F M)(hb:Af0 P o K st)(Q:Exit->Act->World->Prop):o.wp P a w (Good c K) Q:=by
 obtain ⟨f,args,g,cap,N,j,H,Be4,Ad4⟩:=hb;unfold Ez at j;split at j
 case h_2=>cases j
 rename_i cl QV;split at j
 case h_2=>cases j
 rename_i u x;simp only[Bo,Cs] at j;obtain ⟨rfl,rfl⟩:=j;have k:=Di l u;rw[H] at k;generalize m:a.eval u=vf at k;cases k with
 | fn _ _ Aem I B=>
   have Ng:=(YY l cl.args.toList).append (cs':=cap) (vs':=Aem.toList) ⟨by simpa using I,λ i e E=>by have:=B i e E;simpa [List.getD,Array.getD_eq_getD_getElem?] using this⟩;have p:=RL l.heap _ _ Ng.1 Ng.2 Be4;have Bdk:=Ad4 (cl.args.map a.eval++Aem) w (Aj1 F M st.hp) M ⟨λ id o j=>by simp[get] at j,λ id o Wv R b j=>by simp[get] at j⟩
     (λ b hb=>hb.elim (l.keep.Fl b) l.heap.lt) (λ id hid=>by simp[sg,get] at hid) (by simpa using p)
   rcases Bdk with ⟨Lc,V4⟩ | ⟨v,y,Rr,OU⟩
   . have ET:(execOp a.eval o).run P w= .ok (.enter g (cl.args.map a.eval++Aem)) w:=by
       simp only[execOp,QV,x,resolve,m,Deferred.ofValue,Sem.run_bind,Sem.run_pure,Result.andThen_ok,invoke,Array.empty_append];exact Lc
     unfold Oper.wp;rw[ET];refine V4.mono ?_;rintro e y ⟨v,z,r,F2,M2,rfl,s,q,n,LA⟩;exact Aey l s q n LA
   . have ET:(execOp a.eval o).run P w= .ok (.value v) y:=by
       simp only[execOp,QV,x,resolve,m,Deferred.ofValue,Sem.run_bind,Sem.run_pure,Result.andThen_ok,invoke,Array.empty_append];exact Rr
     obtain ⟨S,z,r,F2,M2,t,s,q,n,LA⟩:=OU;cases t;unfold Oper.wp;rw[ET];exact Aey l s q n LA
theorem Acq{f:AM}{args:AD}(b:Ez o.op=some (f,args)):∀x∈f::args,x∈o.op.operands.toList:=by
 unfold Ez at b;split at b
 case h_2=>cases b
 rename_i cl PV;split at b
 case h_2=>cases b
 rename_i i g;simp only[Bo,Cs] at b;obtain ⟨rfl,rfl⟩:=b;intro x e;rw[PV];simp[Op.operands,Call.operands,g] at e ⊢;exact e
theorem Aez(h:∀x∈o.op.operands.toList,ev st' x=ev st x)(hp:∀id,get st'.hp id=get st.hp id)(n:∀d,K (st.put o.dst d)->K' (st'.put o.dst d))
   (e:∀t sz es d,K (st.made o.dst (.arr t sz es) d)->K' (st'.made o.dst (.arr t sz es) d)) (hb:Af0 P o K st):Af0 P o K' st':=by
 obtain ⟨f,args,g,cap,j,i,p,Be4,Ad4⟩:=hb;have hx:=Acq i;have Ng:args.map (ev st')=args.map (ev st):=List.map_congr_left λ x KL=>h x (hx x (by simp[KL]));refine ⟨f,args,g,cap,j,i,(h f (hx f AT)).trans p,?_,Ad4.mono λ q r b=>b.imp (λ b=>⟨b.1,n _ b.2⟩) λ ⟨t,sz,es,k,h2,l,m⟩=>⟨t,sz,es,k,h2,by rw[hp];exact l,e _ _ _ _ m⟩⟩;rw[Ng];exact OH _ _ (λ id _=>hp id) Be4
theorem Bky{env:Ar}{n:Nat}{e h h':Hp}(hx:HX e h h')(s:∀x∈o.op.operands.toList,IG h (ev ⟨env,h,n⟩ x))(hb:Af0 P o K ⟨env,h',n⟩):
   Af0 P o (λ st=>(∃Hc,HX e st.hp Hc/\K {st with hp:=Hc})/\Ih (some (o.dst.getD 0)) h st.hp) ⟨env,h,n⟩:=by
 obtain ⟨f,args,g,cap,v,p,q,Be4,Ad4⟩:=hb;have Brw:=Acq p;refine ⟨f,args,g,cap,v,p,q,?_,Ad4.mono λ h2 r k=>k.imp (λ k=>⟨k.1,⟨h',by rw[EW];exact hx,Xf _ _ _ k.2⟩,λ i b=>by rw[EW] at b;exact .inl b⟩) λ ⟨t,u,m,j,z,B,E⟩=>
   ⟨t,u,m,j,z,hx.nn' B,⟨(Te o.dst,.arr t u m)::h',by simp only[St.made,EW];exact hx.cons _ _,Xf _ _ _ E⟩,λ i b=>by
     simp only[St.made,EW,Dj] at b;split at b
     . rename_i e;exact .inr (.inr (by rw[<-e];unfold Te;omega))
     . exact .inl b⟩⟩
 refine OH _ _ (λ id hid=>?_) Be4;rw[ZS,BC] at hid;have Vl:get h id≠none:=by
   rcases hid with l | l
   . obtain ⟨d,H,b⟩:=YO l;obtain ⟨x,KL,rfl⟩:=BS.1 H;exact s x (Brw x (by simp[KL])) id b
   . have j:=s f (Brw f AT) id;have y:ev ⟨env,h,n⟩ f= .fn g cap:=q;rw[y] at j;exact j (by simpa [D.ids] using l)
 exact (hx.eq Vl).symm
def wDq(P:AK)(o:Oper)(K:St->Prop)(st:St):Prop:=Yu P false o K st∨Af0 P o K st
theorem Avu(b:Rel c st a w F M)(h:wDq P o K st)(Q:Exit->Act->World->Prop):o.wp P a w (Good c K) Q:=h.elim (λ h=>Yr b h Q) λ h=>RJ b h Q
end
end Go.Am
namespace Go.Am
open Go
structure QS(st st':St):Prop where
 n:st'.n=st.n
 env:∀t,get st'.env t=get st.env t
 hp:∀id,get st'.hp id=get st.hp id
theorem QS.refl(st):QS st st:=⟨rfl,λ _=>rfl,λ _=>rfl⟩
theorem QS.symm{a b}(h:QS a b):QS b a:=⟨h.n.symm,λ t=>(h.env t).symm,λ t=>(h.hp t).symm⟩
theorem QS.trans{a b c}(h:QS a b)(h':QS b c):QS a c:=⟨h'.n.trans h.n,λ t=>(h'.env t).trans (h.env t),λ t=>(h'.hp t).trans (h.hp t)⟩
theorem Rel.eqv{c}{st st'}{a}{w}{F:Nat->Prop}{M}(f:Rel c st a w F M)(h:QS st st'):Rel c st' a w F M:=by
 have i:sg st'.hp=sg st.hp:=funext λ id=>by unfold sg;rw[h.hp]
 refine ⟨λ t d k=>?_,by rw[h.n];exact f.size,f.defers,?_,?_⟩
 . rw[i];exact f.env t d (by rw[<-h.env];exact k)
 . exact ⟨λ id o g=>by rw[i];exact f.heap.obj id o (by rw[<-h.hp];exact g),λ id o Wv l b g Ud=>f.heap.inj id o Wv l b (by rw[<-h.hp];exact g) (by rw[<-h.hp];exact Ud)⟩
 . have e:=f.keep;exact ⟨e.os,e.tape,e.output,e.size,e.Ua,e.F0,e.Fn,e.Fl,λ b ⟨id,o,g,j⟩=>e.own b ⟨id,o,by rw[<-h.hp];exact g,j⟩,by rw[i];exact e.sgk,e.s0b⟩
def Aan(K:St->Prop):Prop:=∀b a,QS b a->K b->K a
def Bpb(K:St->Prop):St->Prop:=λ b=>∃a,QS b a/\K a
theorem Aan.of(K:St->Prop):Aan (Bpb K):=λ _ _ h ⟨s,a,h2⟩=>⟨s,h.symm.trans a,h2⟩
theorem Akx{st st'}(h:QS st st')(x):ev st' x=ev st x:=by
 cases x<;>simp only[ev,h.env]
theorem Ld{st:St}{t}{d}(q):get (st.put t d).env q=if t=some q/\q<st.n then some d else get st.env q:=by
 cases t with
 | none=>simp[St.put]
 | some t=>
   simp only[St.put];by_cases a:t<st.n
   . rw[if_pos a];simp only[Dj,Bo];by_cases e:t=q
     . subst e;simp[a]
     . simp[e]
   . rw[if_neg a];by_cases e:t=q
     . subst e;simp[a]
     . simp[e]
theorem N8(st:St)(t)(d):(st.put t d).n=st.n:=by
 cases t with
 | none=>rfl
 | some t=>simp only[St.put];split<;>rfl
theorem QS.put{st st'}(h:QS st st')(t)(d):QS (st.put t d) (st'.put t d):=by
 refine ⟨by rw[N8,N8];exact h.n,λ q=>?_,λ id=>by rw[EW,EW];exact h.hp id⟩;rw[Ld,Ld,h.n,h.env]
theorem QS.heap{st st'}(h:QS st st'){x x'}(hx:∀id,get x' id=get x id):QS {st with hp:=x} {st' with hp:=x'}:=⟨h.n,h.env,hx⟩
theorem QS.swap{st:St}{t u}{d x}(EG:∀q,t=some q->u≠some q):QS ((st.put t d).put u x) ((st.put u x).put t d):=by
 refine ⟨by simp only[N8],λ q=>?_,λ id=>by simp only[EW]⟩;simp only[Ld,N8];by_cases a:t=some q/\q<st.n
 . rw[if_pos a];have:=EG q a.1;simp[this,a]
 . rw[if_neg a];by_cases h2:u=some q/\q<st.n
   . simp[h2,a]
   . simp[h2,a]
section
variable {P:AK}
def Looks(l:As)(o:Oper)(st st':St):Prop:=(∀x∈o.op.operands.toList,ev st' x=ev st x)/\PM st' l o.guard=PM st l o.guard
theorem Aun{st st':St}:∀{l:AD},(∀x∈l,ev st' x=ev st x)->l.map (ev st')=l.map (ev st)
 | [],_=>rfl
 | x::r,h=>by simp only[B4,h x AT,Aun (l:=r) (λ y a=>h y (by simp[a]))]
theorem Akc{st st':St}:∀{l:AF},(∀x∈l.map (·.2),ev st' x=ev st x)->l.map (λ q=>(q.1,ev st' q.2))=l.map (λ q=>(q.1,ev st q.2))
 | [],_=>rfl
 | x::r,h=>by simp only[B4,h x.2 AT,Akc (l:=r) (λ y a=>h y (by simp only[B4,BU];exact .inr a))]
theorem RE{st st':St}{o:Option Operand}{n:Int}(h:∀x∈o.toList,ev st' x=ev st x):GY st' o n=GY st o n:=by
 cases o with
 | none=>rfl
 | some x=>simp only[GY,h x AT]
theorem Uu{st st':St}{o:Oper}(h:∀x∈o.op.operands.toList,ev st' x=ev st x)(hp:st'.hp=st.hp):Ps P st' o=Ps P st o:=by
 unfold Ps;generalize o.op=op at h;cases op with
 | call c=>
   simp only;cases u:c.callee with
   | builtin b=>
     simp only;have:c.args.toList.map (ev st')=c.args.toList.map (ev st):=Aun λ x hx=>h x (by simp[Op.operands,Call.operands,u];simpa using hx);rw[this];unfold Ib;rw[hp]
   | _=>rfl
 | slice t x i g j=>
   have e:ev st' x=ev st x:=h x (by simp[Op.operands]);have h2:∀n,GY st' i n=GY st i n:=λ n=>RE λ y l=>h y (by simp[Op.operands];cases i<;>simp_all);have p:∀n,GY st' g n=GY st g n:=λ n=>RE λ y l=>h y (by simp[Op.operands];cases g<;>simp_all);have s:∀m n,j=some m->GY st' (some m) n=GY st (some m) n:=λ m n B=>RE λ y l=>h y (by simp[Op.operands];simp_all);have:LV P st' t (ev st x) i g j=LV P st t (ev st x) i g j:=by
     unfold LV;simp only[h2,p,hp];cases j with
     | none=>rfl
     | some m=>simp only[s m _ rfl]
   simp only[NM,e,this,hp]
 | build t f=>
   have e:f.toList.map (λ q=>(q.1,ev st' q.2))=f.toList.map (λ q=>(q.1,ev st q.2)):=Akc λ x hx=>h x (by simpa [Op.operands] using hx);simp only[NM,Aen,e,hp]
 | buildSlice t n f=>
   have e:f.toList.map (λ q=>(q.1,ev st' q.2))=f.toList.map (λ q=>(q.1,ev st q.2)):=Akc λ x hx=>h x (by simpa [Op.operands] using hx);have h2:FM st' (.buildSlice t n f)=FM st (.buildSlice t n f):=by
     unfold FM;split
     . rename_i E w heq;cases heq;split
       . rename_i x z k;simp only[h x (by simp[Op.operands,k])]
       . rfl
     . rfl
   simp only[Rn,h2,MI,e,hp]
 | makeFunc fn first cap=>
   have e:cap.toList.map (ev st')=cap.toList.map (ev st):=Aun λ x hx=>h x (by simp[Op.operands];exact .inr (by simpa using hx));cases fn<;>simp only[NM,e,hp]
 | makeMap t r=>cases r<;>simp only[Rn,FM,MI,hp]
 | typeAssert x a t v=>
   have e:ev st' x=ev st x:=h x (by simp[Op.operands]);cases v<;>simp only[NM,e,hp]
 | _=>simp[Op.operands] at h<;>simp only[NM,Rn,FM,MI,h,hp]
theorem Aqb{st st':St}{o:Oper}{f:AM}{args:AD}(a:Ez o.op=some (f,args))(h:∀x∈o.op.operands.toList,ev st' x=ev st x)(hp:st'.hp=st.hp):KH st' f args=KH st f args:=by
 unfold Ez at a;split at a
 case h_2=>cases a
 rename_i cl PV;split at a
 case h_2=>cases a
 rename_i e b;simp only[Bo,Cs] at a;obtain ⟨rfl,rfl⟩:=a;rw[PV] at h;have g:ev st' e=ev st e:=h e (by simp[Op.operands,Call.operands,b]);have h2:cl.args.toList.map (ev st')=cl.args.toList.map (ev st):=Aun λ x hx=>h x (by simp[Op.operands,Call.operands,b];exact .inr (by simpa using hx));unfold KH;rw[g,h2,hp]
theorem Yt{st st':St}{o:Oper}{K K':St->Prop}(h:∀x∈o.op.operands.toList,ev st' x=ev st x)(hp:st'.hp=st.hp)
   (b:∀y d,K (({st with hp:=y}:St).put o.dst d)->K' (({st' with hp:=y}:St).put o.dst d)) (a:Yu P false o K st):Yu P false o K' st':=by
 unfold Yu at*;split at a
 . rename_i f args e;rw[Aqb e h hp];rcases Rs.Jn a with a | a
   case inr=>exact (BV a.1).elim
   simp only[RB] at a ⊢;exact Rs.Ie (Rs.Dg (λ x hx=>Wm (λ d y g=>b y d g) hx) a)
 . rw[Uu h hp];rcases Rs.Jn a with a | a
   case inr=>exact (BV a.1).elim
   exact Rs.Ie (Rs.Dg (λ x hx=>b _ _ hx) a)
theorem Bc3{st:St}{o:Oper}{K K':St->Prop}(a:∀s,K s->K' s)(b:Yu P false o K st):Yu P false o K' st:=
 Yt (λ _ _=>rfl) rfl (λ _ _ e=>a _ e) b
theorem Bie{st st':St}(a:QS st st'){o:Oper}{K:St->Prop}(f:Aan K)(i:Yu P false o K st):Yu P false o K st':=by
 have g:Yu P false o K {st' with hp:=st.hp}:=Yt (λ x _=>Akx (st':={st' with hp:=st.hp}) ⟨a.n,a.env,λ _=>rfl⟩ x) rfl
   (λ y d b=>f _ _ (QS.put (QS.heap a λ _=>rfl) _ _) b) i
 have hx:HX [] st.hp st'.hp:=λ id=>by rw[a.hp];cases get st.hp id<;>rfl
 have h2:=Bmo (env:=st'.env) (n:=st'.n) hx (λ id h=>(h rfl).elim) rfl g;refine Bc3 (λ s ⟨y,j,b⟩=>?_) h2;have e:QS {s with hp:=y} s:=by
   refine ⟨rfl,λ _=>rfl,λ id=>?_⟩;have:=j id;simp only[get] at this;rw[this];cases get y id<;>rfl
 exact f _ _ e b
theorem T1{st st':St}{o:Oper}{K K':St->Prop}(h:∀x∈o.op.operands.toList,ev st' x=ev st x)(hp:st'.hp=st.hp)
   (b:∀y d,K (({st with hp:=y}:St).put o.dst d)->K' (({st' with hp:=y}:St).put o.dst d)) (a:wDq P o K st):wDq P o K' st':=by
 rcases a with a | a
 . exact .inl (Yt h hp b a)
 . refine .inr (Aez h (λ id=>by rw[hp]) (λ d e=>?_) (λ t g f d e=>?_) a)
   . have:=b st.hp d e;rw[<-hp] at this;exact this
   . have:=b _ _ e;rw[<-hp] at this;exact this
theorem KQ{st:St}{o:Oper}{K K':St->Prop}(a:∀s,K s->K' s)(b:wDq P o K st):wDq P o K' st:=
 T1 (λ _ _=>rfl) rfl (λ _ _ e=>a _ e) b
theorem Aud{st st':St}(a:QS st st'){o:Oper}{K:St->Prop}(f:Aan K)(b:wDq P o K st):wDq P o K st':=by
 rcases b with b | b
 . exact .inl (Bie a f b)
 . exact .inr (Aez (λ x _=>Akx a x) a.hp (λ d e=>f _ _ (a.put _ _) e) (λ t i g d e=>by
     refine f _ _ (QS.put (st:={st with hp:=(Te o.dst,AO.arr t i g)::st.hp}) (st':={st' with hp:=(Te o.dst,AO.arr t i g)::st'.hp}) ⟨a.n,a.env,λ id=>?_⟩ _ _) e;simp only[Dj,a.hp]) b)
theorem Bmm{env:Ar}{n:Nat}{e h h':Hp}(hx:HX e h h')(f:∀id,get e id≠none->id<10000)(g:Me h){o:Oper}(i:isQ o.op=true)(b:∀x∈o.op.operands.toList,IG h (ev ⟨env,h,n⟩ x)){K:St->Prop}(a:wDq P o K ⟨env,h',n⟩):
   wDq P o (λ st=>(∃Hc,HX e st.hp Hc/\K {st with hp:=Hc})/\Ih (some (o.dst.getD 0)) h st.hp) ⟨env,h,n⟩:=
 a.elim (λ a=> .inl (Bmn hx f g i b a)) λ a=> .inr (Bky hx b a)
end
end Go.Am
namespace Go.Am
open Go
def IY:Ai->Option Ax
 | []=>some []
 | .p x::r=>(IY r).map (x:: ·)
 | .cl a::r=>(IY r).map (.sl a:: ·)
 | _::_=>none
def Nb(P:AK)(st:St)(q:Nat)(b:Op):Rs (D×AO):=
 match b with
 | .alloc t=>match Dz P t with
   | some a=>match a.zero.stored with
     | some cs=> .ret True (.ptr q 0,.box cs (npT t cs))
     | none=> .fail
   | none=> .fail
 | .box _ x=>match (ev st x).stored with
   | some cs=> .ret True (.ptr q 0,.box cs)
   | none=> .fail
 | .buildSlice t n parts=>if Acn t=true then .fail else match Dz P t with
   | some ⟨_,_,.slice e,_⟩=>match Dz P e with
     | some a=>match J2 (λ i=>some (i*a.size,a.size)) (List.replicate (n*a.size) .bad) (parts.toList.map λ q=>(q.1,ev st q.2)) with
       | some cs=>if Ak8 a cs=true then .fail else match IY cs with
         | some y=> .ret (0<a.size/\n*a.size<=16777216) (.ref q 0 n n,.arr e a.size (chunk a.size n y))
         | none=> .fail
       | none=> .fail
     | none=> .fail
   | _=> .fail
 | .makeSlice t l m=>match Dz P t,ev st l,ev st m with
   | some ⟨_,_,.slice e,_⟩,.p (.int _ l),.p (.int _ m)=>match Dz P e with
     | some a=>if (a.k.Bnq&&!Acn t)=true then .fail else match IY a.zero.cells with
       | some y=> .ret (0<a.size/\(0<=l/\l<=m/\m*a.bytes<=140737488355328/\m<=140737488355328)/\a.zero.cells.length=a.size) (.ref q 0 l.toNat l.toNat,.arr e a.size (List.replicate l.toNat y))
       | none=> .fail
     | none=> .fail
   | _,_,_=> .fail
 | _=> .fail
def Gp(P:AK)(l:As)(hR:Hp):Al->(St->Prop)->St->Prop
 | [],K,a=>K a
 | (i,kd)::r,K,a=>match l[i]? with
   | none=>False
   | some o=>IU a l o.guard (match kd with
     | 0=>(Ps P {a with hp:=hR} o).all λ x=>Gp P l hR r K (a.put o.dst x.1)
     | 1=>(Nb P a (o.dst.getD 0) o.op).all λ x=>get a.hp (o.dst.getD 0)=none/\Gp P l hR r K (({a with hp:=(o.dst.getD 0,x.2)::a.hp}:St).put o.dst x.1)
     | 2=>wDq P o (λ s=>KN s.hp hR/\Gp P l hR r K s) a
     | _=>wDq P o (Gp P l hR r K) a) (Gp P l hR r K (a.put o.dst (.Em [])))
theorem Rs.leaf{α:Type}{k:α->Prop}:∀{r:Rs α},r.all k->∃a,k a/\∀k':α->Prop,k' a->r.all k'
 | .fail,h=>h.elim
 | .ret p a,h=>⟨a,h.2,λ _ f=>⟨h.1,f⟩⟩
 | .split b x y,h=>by
   cases b
   . obtain ⟨a,g,h2⟩:=Rs.leaf (h.2 rfl);exact ⟨a,g,λ k' f=>⟨λ e=>(BV e).elim,λ _=>h2 k' f⟩⟩
   . obtain ⟨a,g,h2⟩:=Rs.leaf (h.1 rfl);exact ⟨a,g,λ k' f=>⟨λ _=>h2 k' f,λ e=>(BV e.symm).elim⟩⟩
theorem KG(st:St)(l:As)(g:Option (Nat×Bool))(yes no:Prop):IU st l g yes no=match PM st l g with
   | .yes=>yes
   | .no=>no
   | .cond b=>WIf b yes no
   | .bad=>False:=by
 unfold IU PM;cases g with
 | none=>rfl
 | some g=>
   obtain ⟨j,want⟩:=g;simp only;cases ((l[j]?).bind (·.dst)).bind (get st.env) with
   | none=>rfl
   | some d=>cases d with
     | p q=>cases q<;>rfl
     | Em cs=>cases cs<;>rfl
     | _=>rfl
theorem Z0{st}{l}{g}{yes no:Prop}(h:IU st l g yes no):
   (yes/\∀(st':St) (y n:Prop),PM st' l g=PM st l g->y->IU st' l g y n)∨(no/\∀(st':St) (y n:Prop),PM st' l g=PM st l g->n->IU st' l g y n):=by
 rw[KG] at h;cases f:PM st l g with
 | yes=>rw[f] at h;exact .inl ⟨h,λ st' y n e a=>by rw[KG,e];exact a⟩
 | no=>rw[f] at h;exact .inr ⟨h,λ st' y n e a=>by rw[KG,e];exact a⟩
 | bad=>rw[f] at h;exact h.elim
 | cond b=>
   rw[f] at h;cases b
   . exact .inr ⟨h.2 rfl,λ st' y n e a=>by rw[KG,e];exact ⟨λ e=>(BV e).elim,λ _=>a⟩⟩
   . exact .inl ⟨h.1 rfl,λ st' y n e a=>by rw[KG,e];exact ⟨λ _=>a,λ e=>(BV e.symm).elim⟩⟩
theorem Fx{st st'}{l}{g}{yes no Bq1 a:Prop}(e:PM st' l g=PM st l g)(i:yes->Bq1)(f:no->a)(h:IU st l g yes no):IU st' l g Bq1 a:=by
 rcases Z0 h with ⟨b,h2⟩ | ⟨b,h2⟩
 . exact h2 st' _ _ e (i b)
 . exact h2 st' _ _ e (f b)
section
variable {P:AK} {l:As} {hR:Hp}
theorem Be6{st st':St}(h:QS st st')(g:Option (Nat×Bool)):PM st' l g=PM st l g:=by
 unfold PM;have:get st'.env=get st.env:=funext h.env;rw[this]
theorem RI{st st':St}{q:Nat}{a:Op}(h:∀x∈a.operands.toList,ev st' x=ev st x):Nb P st' q a=Nb P st q a:=by
 unfold Nb;cases a with
 | box t x=>simp only[h x (by simp[Op.operands])]
 | buildSlice t n b=>
   have e:b.toList.map (λ q=>(q.1,ev st' q.2))=b.toList.map (λ q=>(q.1,ev st q.2)):=Akc λ x hx=>h x (by simpa [Op.operands] using hx);simp only[e]
 | makeSlice t l m=>simp only[h l (by simp[Op.operands]),h m (by simp[Op.operands])]
 | _=>rfl
theorem Rf:∀{cs:Ai} {y:Ax},IY cs=some y->∀(h:Hp) (k:Ax×Hp->Prop),k (y,h)->(MC h cs).all k
 | [],y,a,h,k,b=>by simp only[IY,Bo] at a;subst a;exact ⟨trivial,b⟩
 | .p x::r,y,a,h,k,b=>by
   simp only[IY,Cu] at a;obtain ⟨z,e,rfl⟩:=a;exact Rs.DS ⟨trivial,Rs.DS (Rf e h _ ⟨trivial,b⟩)⟩
 | .cl f::r,y,a,h,k,b=>by
   simp only[IY,Cu] at a;obtain ⟨z,e,rfl⟩:=a;exact Rs.DS ⟨trivial,Rs.DS (Rf e h _ ⟨trivial,b⟩)⟩
 | .agg _::r,y,a,h,k,b=>by simp[IY] at a
 | .Em _::r,y,a,h,k,b=>by simp[IY] at a
 | .cz _::r,y,a,h,k,b=>by simp[IY] at a
 | .ref _ _ _ _::r,y,a,h,k,b=>by simp[IY] at a
 | .ptr _ _::r,y,a,h,k,b=>by simp[IY] at a
 | .pe _::r,y,a,h,k,b=>by simp[IY] at a
 | .ea _ _ _ _::r,y,a,h,k,b=>by simp[IY] at a
 | .fn _ _::r,y,a,h,k,b=>by simp[IY] at a
 | .np::r,y,a,h,k,b=>by simp[IY] at a
 | .mv _::r,y,a,h,k,b=>by simp[IY] at a
 | .E3 _ _::r,y,a,h,k,b=>by simp[IY] at a
 | .R9 _ _ _::r,y,a,h,k,b=>by simp[IY] at a
 | .nr _ _ _ _::r,y,a,h,k,b=>by simp[IY] at a
 | .WE::r,y,a,h,k,b=>by simp[IY] at a
 | .bad::r,y,a,h,k,b=>by simp[IY] at a
theorem Asa{st:St}{t:AG}{n:Nat}{b:Array (Nat×Operand)}(h:¬Acn t=true):FM st (.buildSlice t n b)=none:=by
 unfold FM;split
 . rename_i heq;cases heq;split
   . rename_i a _;exact (h a).elim
   . rfl
 . rfl
theorem Aiw{st:St}{o:Oper}{K:St->Prop}(h:(Nb P st (o.dst.getD 0) o.op).all λ x=>get st.hp (o.dst.getD 0)=none/\K (({st with hp:=(o.dst.getD 0,x.2)::st.hp}:St).put o.dst x.1)):
   Ez o.op=none/\Ps P st o=Rn P st (o.dst.getD 0) o.op/\(Rn P st (o.dst.getD 0) o.op).all λ x=>K (({st with hp:=x.2}:St).put o.dst x.1):=by
 unfold Nb at h;unfold Ps Ez;split at h
 . rename_i t b;simp only[b,true_and];split at h
   . rename_i e;split at h
     . rename_i h2;simp only[Rn,FM,MI,e,h2];exact ⟨h.2.1,h.2.2⟩
     . exact h.elim
   . exact h.elim
 . rename_i t x b;simp only[b,true_and];split at h
   . rename_i h2;simp only[Rn,FM,MI,h2];exact ⟨h.2.1,h.2.2⟩
   . exact h.elim
 . rename_i t n parts b;simp only[b,true_and];split at h
   . exact h.elim
   rename_i i;simp only[Rn,Asa i];split at h
   . rename_i e;split at h
     . rename_i h2;split at h
       . rename_i f;split at h
         . exact h.elim
         rename_i a;split at h
         . rename_i g;simp only[MI,e,h2,f,if_neg a];exact Rs.DS (Rf g _ _ ⟨⟨h.1.1,h.1.2,h.2.1⟩,h.2.2⟩)
         . exact h.elim
       . exact h.elim
     . exact h.elim
   . exact h.elim
 . rename_i t l m b;simp only[b,true_and];split at h
   . rename_i e h2 f;split at h
     . rename_i g;split at h
       . exact h.elim
       rename_i a;split at h
       . rename_i j;simp only[Rn,FM,MI,e,h2,f,g,if_neg a];exact Rs.DS (Rf j _ _ ⟨⟨h.1.1,h.2.1,h.1.2.1,h.1.2.2⟩,h.2.2⟩)
       . exact h.elim
     . exact h.elim
   . exact h.elim
 . exact h.elim
theorem KN.congr{h h2:Hp}(b:∀id,get h2 id=get h id):∀{a:Hp},KN h a->KN h2 a
 | [],_=>trivial
 | (id,o)::r,e=>⟨by rw[b];exact e.1,KN.congr b e.2⟩
theorem Mq{K:St->Prop}(f:Aan K):∀(r:Al),Aan (Gp P l hR r K)
 | []=>f
 | (i,kd)::r=>by
   intro st st' a h;have e:=Mq f r;simp only[Gp] at h ⊢;split at h
   . exact h.elim
   . rename_i o m;(try simp only[m]);refine Fx (Be6 a _) (λ b=>?_) (λ k=>e _ _ (a.put _ _) k) h;split at b
     . rw[Uu (st:={st with hp:=hR}) (st':={st' with hp:=hR}) (λ x _=>Akx (a.heap (x:=hR) (x':=hR) λ _=>rfl) x) rfl];exact Rs.Dg (λ x hx=>e _ _ (a.put _ _) hx) b
     . rw[RI (st:=st) (λ x _=>Akx a x)];refine Rs.Dg (λ x hx=>⟨by rw[a.hp];exact hx.1,e _ _ (QS.put (a.heap λ id=>?_) _ _) hx.2⟩) b;simp only[Dj,a.hp]
     . exact Aud a (λ s n j g=>⟨g.1.congr j.hp,e _ _ j g.2⟩) b
     . exact Aud a e b
end
end Go.Am
namespace Go.Am
open Go
section
variable {P:AK} {l:As} {hR:Hp}
theorem KN.hx{h:Hp}(b:KN h hR):HX h hR h:=by
 intro id;cases a:get hR id with
 | none=>rfl
 | some o=>exact b.spec id o a
theorem Ans{o:Oper}(a:Vj o.op=true):Ez o.op=none:=by
 unfold Ez;split
 . rename_i c b;rw[b] at a;split
   . rename_i f e;simp[Vj,e] at a
   . rfl
 . rfl
theorem Bh9{env:Ar}{n:Nat}{e h h':Hp}(hx:HX e h h'){q:Nat}{b:Builtin}(hb:b≠ .append)(f:b≠ .copy){i:Array TypeId}{args:Ai}{k:D->Prop}(a:(Ib P ⟨env,h,n⟩ q b i args).all (λ x=>k x.1)):
   (Ib P ⟨env,h',n⟩ q b i args).all (λ y=>y.2=h'/\k y.1):=by
 unfold Ib at*;split at a
 . split at a
   . refine Rs.DS (Rs.Dg (λ y g=>?_) (Auo hx (Rs.all_bind a)));exact ⟨g.1,rfl,g.2⟩
   . exact a.elim
 . exact (hb rfl).elim
 . exact (f rfl).elim
 . exact ⟨a.1,rfl,a.2⟩
 . exact ⟨a.1,rfl,a.2⟩
 . exact ⟨a.1,rfl,a.2⟩
 . exact a.elim
theorem doV{env:Ar}{n:Nat}{e h h':Hp}(hx:HX e h h'){o:Oper}(a:Vj o.op=true){k:D->Prop}(f:(Ps P ⟨env,h,n⟩ o).all (λ x=>k x.1)):(Ps P ⟨env,h',n⟩ o).all (λ x=>x.2=h'/\k x.1):=by
 have val:∀{op:Op},((NM P ⟨env,h,n⟩ op).bind λ d=> .ret True (d,h)).all (λ x=>k x.1)->((NM P ⟨env,h',n⟩ op).bind λ d=> .ret True (d,h')).all (λ x=>x.2=h'/\k x.1):=λ a=>
   Rs.DS (Rs.Dg (λ d i=>⟨i.1,rfl,i.2⟩) (Aue hx (Rs.all_bind a)))
 unfold Ps at*;generalize o.op=op at a f ⊢;cases op with
 | call c=>
   cases g:c.callee with
   | builtin b=>
     simp only[g] at f ⊢;exact Bh9 hx (λ e=>by subst e;simp[Vj,g] at a) (λ e=>by subst e;simp[Vj,g] at a) f
   | _=>simp only[g] at f;exact f.elim
 | alloc _=>simp[Vj] at a
 | box _ _=>simp[Vj] at a
 | store _ _ _=>simp[Vj] at a
 | buildSlice _ _ _=>simp[Vj] at a
 | makeSlice _ _ _=>simp[Vj] at a
 | makeMap _ _=>simp[Vj] at a
 | mapUpdate _ _ _ _=>simp[Vj] at a
 | _=>exact val f
theorem Ys{st:St}{o:Oper}{K:St->Prop}(a:Ez o.op=none)(h:(Ps P st o).all λ x=>K (({st with hp:=x.2}:St).put o.dst x.1)):Yu P false o K st:=by
 unfold Yu;rw[a];exact Rs.Ie h
theorem eff{i g:Nat}{r:Al}{K:St->Prop}{st:St}{o:Oper}(u:l[i]?=some o)(S:g=0∨g=1)(B:g=0->Vj o.op=true)(h:Gp P l hR ((i,g)::r) K st):
   ∃(e:Hp) (d:D),(e=[]∨(g=1/\∃I,e=[(o.dst.getD 0,I)]))/\(∀x∈e,get st.hp x.1=none)/\Gp P l hR r K (({st with hp:=e++st.hp}:St).put o.dst d)/\
     (∀(s:St) (t:Al) (K':St->Prop),Looks l o st s->(∀x∈e,get s.hp x.1=none)->Gp P l hR t K' (({s with hp:=e++s.hp}:St).put o.dst d)->Gp P l hR ((i,g)::t) K' s)/\
     (∀(c:Ctx) (a:Act) (w:AI) (F:Nat->Prop) (M:Nat->Mb),Rel c st a w F M->(g=0->KN st.hp hR)->∃H E F' M',Rel c (({st with hp:=e++st.hp}:St).put o.dst d) H E F' M'):=by
 simp only[Gp,u] at h;rcases Z0 h with ⟨b,LB⟩ | ⟨T,LB⟩
 . rcases S with rfl | rfl
   . simp only at b;obtain ⟨x,hx,hb⟩:=Rs.leaf b;refine ⟨[],x.1,.inl rfl,(λ y b=>by cases b),hx,λ s t K' f _ q=>?_,λ c a w F M m hle=>?_⟩
     . simp only[Gp,u];refine LB s _ _ f.2 ?_;(try simp only);rw[Uu (st:={st with hp:=hR}) (st':={s with hp:=hR}) (λ x hx=>f.1 x hx) rfl];exact hb _ q
     . have z:(Ps P ⟨st.env,hR,st.n⟩ o).all (λ y=>(λ d=>d=x.1) y.1):=hb (λ y=>y.1=x.1) rfl;have h2:=doV (k:=λ d=>d=x.1) (hle rfl).hx (B rfl) z;have Q:Yu P false o (λ s=>s=st.put o.dst x.1) st:=Ys (Ans (B rfl)) (Rs.Dg (λ y b=>by
         obtain ⟨j,N⟩:=b;rw[j,N]) h2)
       obtain ⟨d,v,j,p,_⟩:=Awv m (B rfl) Q;have:=m.put p o.dst;rw[j] at this;exact ⟨_,w,F,M,this⟩
   . simp only at b;obtain ⟨x,hx,hb⟩:=Rs.leaf b;refine ⟨[(o.dst.getD 0,x.2)],x.1,.inr ⟨rfl,x.2,rfl⟩,(λ y b=>by simp only[BF] at b;subst b;exact hx.1),hx.2,λ s t K' f R q=>?_,λ c a w F M m _=>?_⟩
     . simp only[Gp,u];refine LB s _ _ f.2 ?_;(try simp only);rw[RI (st:=st) (λ x hx=>f.1 x hx)];exact hb _ ⟨R (o.dst.getD 0,x.2) AT,q⟩
     . obtain ⟨_,_,z⟩:=Aiw (K:=λ s=>s=({st with hp:=(o.dst.getD 0,x.2)::st.hp}:St).put o.dst x.1) (hb (λ y=>get st.hp (o.dst.getD 0)=none/\({st with hp:=(o.dst.getD 0,y.2)::st.hp}:St).put o.dst y.1=({st with hp:=(o.dst.getD 0,x.2)::st.hp}:St).put o.dst x.1) ⟨hx.1,rfl⟩);obtain ⟨d,U,v,E,F',M',j,Ql,_,p,_⟩:=JA m (o:=o) (k:=λ d h=>({st with hp:=h}:St).put o.dst d=({st with hp:=(o.dst.getD 0,x.2)::st.hp}:St).put o.dst x.1) (MH z);have:=Ql.put p o.dst;(try simp only at j);rw[j] at this;exact ⟨_,E,F',M',this⟩
 . refine ⟨[],.Em [],.inl rfl,(λ y b=>by cases b),T,λ s t K' f _ q=>?_,λ c a w F M m _=>?_⟩
   . simp only[Gp,u];exact LB s _ _ f.2 q
   . exact ⟨_,w,F,M,m.put (.Em [] #[] rfl (λ i d p=>by simp at p)) o.dst⟩
end
end Go.Am
namespace Go.Am
open Go
structure Ap(l:As)(x y:Oper):Prop where
 a:∀d,x.dst=some d->d∉y.looksAt l.toArray
 b:∀d,x.dst=some d->y.dst≠some d
 c:∀d,y.dst=some d->d∉x.looksAt l.toArray
section
variable {P:AK} {l:As} {hR:Hp}
theorem IQ{o:Oper}{st:St}{t:Option Nat}{d:D}{h:Hp}(a:∀q,t=some q->q∉o.looksAt l.toArray):Looks l o st (({st with hp:=h}:St).put t d):=by
 refine ⟨λ x hx=>?_,?_⟩
 . cases x with
   | tmp q=>
     simp only[ev,Ld];rw[if_neg];rintro ⟨e,_⟩;refine a q e ?_;unfold Oper.looksAt;exact CC _ (List.mem_filterMap.2 ⟨.tmp q,hx,rfl⟩)
   | _=>rfl
 . unfold PM;cases b:o.guard with
   | none=>rfl
   | some g=>
     obtain ⟨j,want⟩:=g;simp only;cases f:(l[j]?).bind (·.dst) with
     | none=>rfl
     | some q=>
       have:get (({st with hp:=h}:St).put t d).env q=get st.env q:=by
         rw[Ld,if_neg];rintro ⟨e,_⟩;refine a q e ?_;unfold Oper.looksAt;refine List.mem_append_right _ ?_;rw[b];simp[f]
       simp only[Bd,this]
theorem Looks.trans{o:Oper}{a b c:St}(h:Looks l o a b)(h':Looks l o b c):Looks l o a c:=⟨λ x hx=>(h'.1 x hx).trans (h.1 x hx),h'.2.trans h.2⟩
theorem Looks.heap{o:Oper}{a b:St}(h:Looks l o a b)(x y:Hp):Looks l o {a with hp:=x} {b with hp:=y}:=by
 refine ⟨λ z e=>?_,?_⟩
 . have:=h.1 z e;cases z<;>exact this
 . exact h.2
theorem Aaw{st:St}{e:Hp}{t u:Option Nat}{d x:D}(EG:∀q,t=some q->u≠some q):
   QS ((({st with hp:=e++st.hp}:St).put t d).put u x) (({(st.put u x) with hp:=e++(st.put u x).hp}:St).put t d):=by
 have a:QS ((({st with hp:=e++st.hp}:St).put t d).put u x) ((({st with hp:=e++st.hp}:St).put u x).put t d):=QS.swap EG;refine a.trans (QS.put ?_ _ _);refine ⟨by simp only[N8],λ q=>?_,λ id=>?_⟩
 . simp only[Ld]
 . simp only[EW]
theorem Bl8{K:St->Prop}(p:Aan K){j:Nat}{f:Oper}(q:l[j]?=some f)(post:Al):∀(pre:Al) {st:St},Gp P l hR (pre++(j,0)::post) K st->
   (∀x∈pre,(x.2=0∨x.2=1)/\∃k,l[x.1]?=some k/\(x.2=0->Vj k.op=true)/\Ap l k f)->
   IU st l f.guard ((Ps P {st with hp:=hR} f).all λ x=>Gp P l hR (pre++post) K (st.put f.dst x.1)) (Gp P l hR (pre++post) K (st.put f.dst (.Em [])))
 | [],st,h,_=>by
   simp only[Cz,Gp,q] at h;exact h
 | (i,ki)::pre,st,h,hp=>by
   obtain ⟨t,k,v,w,g⟩:=hp (i,ki) AT;obtain ⟨e,d,B,r,s,LB,_⟩:=eff v t w h;have z:=Bl8 p q post pre s (λ x hx=>hp x (by simp[hx]));have m:Looks l f st (({st with hp:=e++st.hp}:St).put k.dst d):=IQ g.a;have o:∀x:D,Gp P l hR (pre++post) K ((({st with hp:=e++st.hp}:St).put k.dst d).put f.dst x)->Gp P l hR ((i,ki)::(pre++post)) K (st.put f.dst x):=by
     intro x hx;refine LB _ _ _ (IQ (h:=st.hp) g.c) (λ y n=>by rw[EW];exact r y n) (Mq p _ _ _ (Aaw g.b) hx)
   refine Fx m.2.symm (λ n=>?_) (λ u=>o _ u) z;rw[Uu (st:={st with hp:=hR}) (λ x hx=>(m.heap hR hR).1 x hx) rfl] at n;exact Rs.Dg (λ x hx=>o _ hx) n
theorem Bl9{K:St->Prop}(t:Aan K){j:Nat}{f:Oper}(w:l[j]?=some f)(post:Al):∀(pre:Al) {st:St},Gp P l hR (pre++(j,1)::post) K st->
   (∀x∈pre,(x.2=0∨x.2=1)/\∃m,l[x.1]?=some m/\(x.2=0->Vj m.op=true)/\Ap l m f/\(x.2=1->m.dst.getD 0≠f.dst.getD 0))->
   IU st l f.guard ((Nb P st (f.dst.getD 0) f.op).all λ x=>get st.hp (f.dst.getD 0)=none/\Gp P l hR (pre++post) K (({st with hp:=(f.dst.getD 0,x.2)::st.hp}:St).put f.dst x.1)) (Gp P l hR (pre++post) K (st.put f.dst (.Em [])))
 | [],st,h,_=>by
   simp only[Cz,Gp,w] at h;exact h
 | (i,ki)::pre,st,h,hp=>by
   obtain ⟨E,m,I,N,g,Bjn⟩:=hp (i,ki) AT;obtain ⟨e,d,u,v,B,LB,_⟩:=eff I E N h;have Q:=Bl9 t w post pre B (λ x hx=>hp x (by simp[hx]));have o:Looks l f st (({st with hp:=e++st.hp}:St).put m.dst d):=IQ g.a;have Bdt:∀y∈e,y.1≠f.dst.getD 0:=by
     intro y k;rcases u with rfl | ⟨n,p,rfl⟩
     . cases k
     . simp only[BF] at k;subst k;exact Bjn n
   refine Fx o.2.symm (λ k=>?_) (λ H=>?_) Q
   . rw[RI (st:=st) (λ x hx=>o.1 x hx)] at k;refine Rs.Dg (λ x hx=>?_) k;obtain ⟨n,h2⟩:=hx;rw[EW] at n;simp only at n;have Asn:get st.hp (f.dst.getD 0)=none:=by
       rcases u with rfl | ⟨_,p,rfl⟩
       . exact n
       . simp only[List.singleton_append,Dj] at n;rw[if_neg (Bdt (m.dst.getD 0,p) AT)] at n;exact n
     refine ⟨Asn,?_⟩;refine LB _ _ _ ((IQ (h:=(f.dst.getD 0,x.2)::st.hp) g.c)) (λ y k=>?_) ?_
     . rw[EW];simp only[Dj];rw[if_neg (λ r=>Bdt y k r.symm)];exact v y k
     . refine Mq t _ _ _ ?_ h2;have z:=Aaw (st:={st with hp:=(f.dst.getD 0,x.2)::st.hp}) (e:=e) (d:=d) (x:=x.1) g.b;refine QS.trans ?_ z;refine ⟨by simp only[N8],λ q=>by simp only[Ld,N8],λ id=>?_⟩;simp only[EW];rcases u with rfl | ⟨_,p,rfl⟩
       . rfl
       . simp only[List.singleton_append,Dj];by_cases s:m.dst.getD 0=id
         . by_cases r:f.dst.getD 0=id
           . exact (Bdt (m.dst.getD 0,p) AT (s.trans r.symm)).elim
           . simp[s,r]
         . simp[s]
   . refine LB _ _ _ (IQ (h:=st.hp) g.c) (λ y k=>by rw[EW];exact v y k) (Mq t _ _ _ (Aaw g.b) H)
end
end Go.Am
namespace Go.Am
open Go
theorem Th:∀{cs:Ai} {id:Nat},id∈E8 cs->∃(i:Nat) (c:D),cs[i]?=some c/\id∈c.ids
 | [],id,h=>by simp[E8] at h
 | d::r,id,h=>by
   simp only[E8,BC] at h;rcases h with h | h
   . exact ⟨0,d,rfl,h⟩
   . obtain ⟨i,c,a,h2⟩:=Th h;exact ⟨i+1,c,by simpa using a,h2⟩
theorem DR.Biu{F:Nat->Prop}{w}{M}{s}{d}{v}(h:DR F w M s d v):∀id∈d.ids,s id≠none:=by
 induction h with
 | p _=>intro id e;simp[D.ids] at e
 | agg cs t r _ l=>intro id e;obtain ⟨i,c,j,h2⟩:=Th e;exact l i c j id h2
 | Em cs t r _ l=>intro id e;obtain ⟨i,c,j,h2⟩:=Th e;exact l i c j id h2
 | cl u a _ _=>intro id e;simp[D.ids] at e
 | cz u a _=>intro id e;simp[D.ids] at e
 | ref id off len N o n v g _ _ _=>intro i e;simp only[D.ids,BF] at e;subst e;rw[g];simp
 | ptr id off g=>intro i e;simp only[D.ids,BF] at e;subst e;rw[g];simp
 | pe _ _ _ _ _ _ _ _ _ _=>intro id e;simp[D.ids] at e
 | ea id i c N o n v g _ _ _=>intro i e;simp only[D.ids,BF] at e;subst e;rw[g];simp
 | fn f cap t r _ l=>intro id e;obtain ⟨i,c,j,h2⟩:=Th e;exact l i c j id h2
 | WE _ _=>intro id e;simp[D.ids] at e
 | bad _=>intro id e;simp[D.ids] at e
 | np=>intro id e;simp[D.ids] at e
 | mv id g=>intro i e;simp only[D.ids,BF] at e;subst e;rw[g];simp
 | E3 id n o m k v g _ _ _=>intro i e;simp only[D.ids,BF] at e;subst e;rw[g];simp
 | R9 id i n o m k b g _ _ _=>intro i e;simp only[D.ids,BF] at e;subst e;rw[g];simp
 | nr id i n q o m k v g _ _ _=>intro i e;simp only[D.ids,BF] at e;subst e;rw[g];simp
section
variable {P:AK} {l:As} {hR:Hp}
theorem Ajv{h:Hp}{id:Nat}:sg h id≠none->get h id≠none:=by
 intro b a;exact b (by simp[sg,a])
theorem Rel.nod{c:Ctx}{st:St}{a:Act}{w:AI}{F:Nat->Prop}{M:Nat->Mb}(f:Rel c st a w F M):Me st.hp/\∀x,IG st.hp (ev st x):=by
 refine ⟨λ id o n i b=>?_,λ x id b=>Ajv ((Di f x).Biu id b)⟩;have e:=f.heap.obj id o n;cases o with
 | box cs r=>
   obtain ⟨_,row,t,_,_,m⟩:=e;obtain ⟨j,c,g,h2⟩:=Th (cs:=cs) b;exact Ajv ((m.1 j c g).1.Biu i h2)
 | Yo t q p i c d=>
   obtain ⟨row,_,_,_,k,_⟩:=RM.row e;exact Ajv (k.Biu _ b)
 | _=>simp[AO.ids] at b
theorem KN.app{h e:Hp}(f:e=[]∨∃x,e=[x])(g:∀x∈e,get h x.1=none):∀{b:Hp},KN h b->KN (e++h) b
 | [],_=>trivial
 | (id,o)::r,a=>by
   refine ⟨?_,KN.app f g a.2⟩;rcases f with rfl | ⟨x,rfl⟩
   . exact a.1
   . simp only[List.singleton_append];rw[Dj,if_neg]
     . exact a.1
     . intro i;have:=g x AT;rw[i,a.1] at this;cases this
theorem KN.Bl2{h e y:Hp}(hx:HX e y h)(m:∀x∈e,get y x.1=none)(f:e=[]∨∃x,e=[x]){st:Hp}(j:∀x∈e,get st x.1=none):∀{a:Hp},KN st a->KN h a->KN y a
 | [],_,_=>trivial
 | (id,o)::r,b,i=>by
   refine ⟨?_,KN.Bl2 hx m f j b.2 i.2⟩;have a:=i.1;rw[hx] at a;cases g:get y id with
   | some n=>rw[g] at a;exact a
   | none=>
     rw[g] at a;simp only at a;rcases f with rfl | ⟨x,rfl⟩
     . cases a
     . rw[Dj] at a;split at a
       . rename_i k;have:=j x AT;rw[k,b.1] at this;cases this
       . cases a
theorem HX.app{h e:Hp}(a:e=[]∨∃x,e=[x])(b:∀x∈e,get h x.1=none):HX e h (e++h):=by
 rcases a with rfl | ⟨⟨q,o⟩,rfl⟩
 . exact HX.refl h
 . exact HX.one (b (q,o) AT)
theorem HX.Lf{h y e:Hp}(hx:HX e h y)(b:e=[]∨∃x,e=[x])(f:∀x∈e,get h x.1=none)(id:Nat):get (e++h) id=get y id:=by
 rw[hx];rcases b with rfl | ⟨x,rfl⟩
 . simp only[Cz];cases get h id<;>rfl
 . simp only[List.singleton_append];rw[Dj];by_cases a:x.1=id
   . have:=f x AT;rw[a] at this;rw[if_pos a,this];simp[get,a]
   . rw[if_neg a];cases g:get h id with
     | none=>simp[get,a]
     | some o=>rfl
theorem Bco{K:St->Prop}(S:Aan K){c:Ctx}{j B:Nat}{m:Oper}(hj:l[j]?=some m)(I:B=2∨B=3)(hq:isQ m.op=true)(post:Al):
   ∀(pre:Al) {st:St} {a:Act} {w:AI} {F:Nat->Prop} {M:Nat->Mb},Rel c st a w F M->Gp P l hR (pre++(j,B)::post) K st->(B=2∨(∃x∈pre,x.2=0)->KN st.hp hR)->
   (∀x∈pre,(x.2=0∨x.2=1)/\∃f,l[x.1]?=some f/\(x.2=0->Vj f.op=true)/\Ap l f m/\(x.2=1->f.dst.getD 0≠m.dst.getD 0/\f.dst.getD 0<10000))->
   IU st l m.guard (wDq P m (λ s=>(B=2->KN s.hp hR)/\Gp P l hR (pre++post) K s) st) (Gp P l hR (pre++post) K (st.put m.dst (.Em [])))
 | [],st,a,w,F,M,hr,h,hle,_=>by
   simp only[Cz,Gp,hj] at h;refine Fx rfl (λ v=>?_) id h;rcases I with rfl | rfl
   . exact KQ (λ s T=>⟨λ _=>T.1,T.2⟩) v
   . exact KQ (λ s T=>⟨λ e=>(by cases e),T⟩) v
 | (i,ki)::pre,st,a,w,F,M,hr,h,hle,hp=>by
   obtain ⟨u,f,ho,hv,k,Bjn⟩:=hp (i,ki) AT;obtain ⟨e,d,V,H,hg,LB,Akl⟩:=eff ho u hv h;have p:e=[]∨∃x,e=[x]:=by
     rcases V with g | ⟨_,U,g⟩
     . exact .inl g
     . exact .inr ⟨_,g⟩
   obtain ⟨a1,w1,F1,M1,KF⟩:=Akl c a w F M hr (λ e0=>hle (.inr ⟨(i,ki),AT,e0⟩));have ih:=Bco S hj I hq post pre KF hg (λ hh=>by
     rw[EW];refine KN.app p H (hle ?_);rcases hh with g | ⟨x,hx,a0⟩
     . exact .inl g
     . exact .inr ⟨x,by simp[hx],a0⟩) (λ x hx=>hp x (by simp[hx]))
   have N:Looks l m st (({st with hp:=e++st.hp}:St).put f.dst d):=IQ k.a;refine Fx N.2.symm (λ v=>?_) (λ hn=>?_) ih
   . have g:wDq P m (λ s=>(B=2->KN s.hp hR)/\Gp P l hR (pre++post) K (s.put f.dst d)) {st with hp:=e++st.hp}:=by
       refine T1 (λ x hx=>(N.1 x hx).symm) (by rw[EW]) (λ y x u=>?_) v;refine ⟨λ R=>by have:=u.1 R;simp only[EW] at this ⊢;exact this,?_⟩;refine Mq S _ _ _ ?_ u.2;have h2:QS ((({st with hp:=y}:St).put f.dst d).put m.dst x) ((({st with hp:=y}:St).put m.dst x).put f.dst d):=QS.swap k.b;refine QS.trans ?_ h2;refine ⟨by simp only[N8],λ q=>by simp only[Ld,N8],λ id=>by simp only[EW]⟩
     obtain ⟨Xr,Z⟩:=hr.nod;have W:∀id,get e id≠none->id<10000:=by
       intro id hid;rcases V with g | ⟨t,U,g⟩
       . subst g;exact (hid rfl).elim
       . subst g;rw[Dj] at hid;split at hid
         . rename_i e1;subst e1;exact (Bjn t).2
         . exact (hid rfl).elim
     have h2:=Bmm (env:=st.env) (n:=st.n) (HX.app p H) W Xr hq (λ x _=>Z x) g;refine T1 (st:=st) (λ _ _=>rfl) rfl (λ y x u=>?_) h2;obtain ⟨⟨Hc,MM,Boa,Ww⟩,Sa⟩:=u;rw[EW] at MM Sa;simp only at MM Sa;have r:∀z∈e,get y z.1=none:=by
       intro z Q;cases Y:get y z.1 with
       | none=>rfl
       | some o=>
         exfalso;rcases V with rfl | ⟨t,U,rfl⟩
         . cases Q
         . simp only[BF] at Q;subst Q;obtain ⟨Tk,J9⟩:=Bjn t;rcases Sa (f.dst.getD 0) (by rw[Y];simp) with E | E | E
           . exact E (H (f.dst.getD 0,U) AT)
           . exact Tk (Bf E)
           . exact absurd J9 (Nat.not_lt.2 E)
     refine ⟨λ R=>by
       rw[EW];exact KN.Bl2 MM r p H (hle (.inl R)) (Boa R),?_⟩
     refine LB _ _ _ (IQ (h:=y) k.c) (λ z Q=>by rw[EW];exact r z Q) ?_;refine Mq S _ _ _ (QS.put ?_ _ _) Ww;refine ⟨rfl,λ _=>rfl,λ id=>?_⟩;simp only[EW];exact HX.Lf MM p r id
   . refine LB _ _ _ (IQ (h:=st.hp) k.c) (λ y v=>by rw[EW];exact H y v) (Mq S _ _ _ (Aaw k.b) hn)
end
end Go.Am
namespace Go.Am
open Go
def waits(o:Oper)(i:Nat):Bool:=o.after.toList.any λ e=>Region.binds .any e&&e.on==i
def Xs:Op->Bool
 | .move _ | .assign _ | .binOp _ _ _ _ _ | .unOp _ _ _ | .extract _ _=>true
 | _=>false
theorem Bal{P}{env}{n}{h h'}{o}(b:Xs o.op=true){k:D->Prop}(a:(Ps P ⟨env,h,n⟩ o).all (λ x=>k x.1)):(Ps P ⟨env,h',n⟩ o).all (λ x=>x.2=h'/\k x.1):=by
 have val:∀{op:Op},NM P ⟨env,h',n⟩ op=NM P ⟨env,h,n⟩ op->((NM P ⟨env,h,n⟩ op).bind λ d=> .ret True (d,h)).all (λ x=>k x.1)->((NM P ⟨env,h',n⟩ op).bind λ d=> .ret True (d,h')).all (λ x=>x.2=h'/\k x.1):=λ e b=>by
   rw[e];exact Rs.DS (Rs.Dg (λ d f=>⟨f.1,rfl,f.2⟩) (Rs.all_bind b))
 unfold Ps at*;generalize o.op=op at b a ⊢;cases op with
 | move _=>exact val rfl a
 | assign _=>exact val rfl a
 | binOp _ _ _ _ _=>exact val rfl a
 | unOp _ _ _=>exact val rfl a
 | extract _ _=>exact val rfl a
 | _=>simp[Xs] at b
def YJ(l:As)(x:Nat×Nat):Prop:=(x.2=0/\∀o,l[x.1]?=some o->Xs o.op=false)∨x.2=2
theorem Bl7{P}{l}{hR}{K:St->Prop}(p:Aan K){j}{f}(s:l[j]?=some f)(post):∀(pre:Al) {st:St},Gp P l hR (pre++(j,4)::post) K st->
   (∀x∈pre,x.2=0/\∃g,l[x.1]?=some g/\Vj g.op=true/\Ap l g f)->
   IU st l f.guard (wDq P f (Gp P l hR (pre++post) K) st) (Gp P l hR (pre++post) K (st.put f.dst (.Em [])))
 | [],st,h,_=>by
   simp only[Cz,Gp,s] at h;exact h
 | (i,ki)::pre,st,h,hp=>by
   obtain ⟨m,g,w,B,k⟩:=hp (i,ki) AT;obtain ⟨e,d,t,N,u,LB,_⟩:=eff w (.inl m) (λ _=>B) h;obtain rfl:e=[]:=by
     rcases t with o | ⟨o,_⟩
     . exact o
     . simp only at m;rw[m] at o;cases o
   have I:=Bl7 p s post pre u (λ x hx=>hp x (by simp[hx]));have n:Looks l f st (({st with hp:=[]++st.hp}:St).put g.dst d):=IQ k.a;have r:∀(y:Hp) (x:D),Gp P l hR (pre++post) K ((({st with hp:=y}:St).put g.dst d).put f.dst x)->Gp P l hR ((i,ki)::(pre++post)) K (({st with hp:=y}:St).put f.dst x):=by
     intro y x hx;refine LB _ _ _ (IQ (h:=y) k.c) (λ z H=>by cases H) (Mq p _ _ _ ?_ hx);have h2:QS ((({st with hp:=y}:St).put g.dst d).put f.dst x) ((({st with hp:=y}:St).put f.dst x).put g.dst d):=QS.swap k.b;refine h2.trans ?_;refine ⟨by simp only[N8],λ q=>by simp only[Ld,N8],λ id=>by simp only[EW,Cz]⟩
   refine Fx n.2.symm (λ E=>?_) (λ v=>?_) I
   . refine T1 (λ x hx=>(n.1 x hx).symm) (by rw[EW];rfl) (λ y x m=>?_) E;refine r y x (Mq p _ _ _ ?_ m);refine ⟨by simp only[N8],λ q=>by simp only[Ld,N8],λ id=>by simp only[EW]⟩
   . exact r st.hp (.Em []) (Mq p _ _ _ ⟨by simp only[N8],λ q=>by simp only[Ld,N8,Cz],λ id=>by simp only[EW,Cz]⟩ v)
def Ajq(l:As):Nat->Nat->Nat->Bool
 | 0,_,_=>false
 | f+1,i,j=>match l[j]? with
   | some a=>a.after.toList.any λ e=>Region.binds .any e&&(e.on==i||Ajq l f i e.on)
   | none=>false
def ZO(l:As)(n:Nat)(x y:Nat×Nat):Bool:=
 match l[x.1]?,l[y.1]? with
 | some a,some b=>!waits a y.1&&
   (if y.2=4 then Ajq l n x.1 y.1||(decide (x.2=0)&&Xs a.op&&Vj a.op&&Oper.apart l.toArray a b) else if x.2<=1 then (waits b x.1||(Oper.apart l.toArray a b&&(x.2 != 1||(a.dst.getD 0 != b.dst.getD 0&&decide (a.dst.getD 0<10000)))))&&(!(y.2==3&&x.2==0)||Ajq l n x.1 y.1)
    else Ajq l n x.1 y.1&&!((x.2==3||x.2==4)&&(y.2==0||y.2==2)))
 | _,_=>false
def opB(l:As)(x:Nat×Nat):Bool:=
 match l[x.1]? with
 | some o=>(match x.2 with
     | 0=>Vj o.op
     | 1=>true
     | 2 | 3=>isQ o.op
     | 4=>true
     | _=>false)&&!waits o x.1&&o.after.toList.all λ e=>!Region.binds .any e||decide (e.on<l.length)
 | none=>false
def LZ(l:As)(n:Nat):Al->Bool
 | []=>true
 | x::r=>r.all (ZO l n x)&&LZ l n r
def Bj3:Aq->Bool
 | []=>true
 | x::r=>r.all (λ y=>x != y)&&Bj3 r
theorem Ah4:∀{l:Aq},Bj3 l=true->l.Nodup
 | [],_=>List.nodup_nil
 | x::r,h=>by
   simp only[Bj3,Bz] at h;refine List.nodup_cons.2 ⟨λ a=>?_,Ah4 h.2⟩;have:=BB.1 h.1 x a;simp at this
def RW(l:As)(p:Al):Bool:=
 Bj3 (p.map (·.1))&&LZ l l.length p&&p.all (opB l)&&p.length==l.length&&(List.range l.length).all λ i=>p.any λ x=>x.1==i
section
variable {P:AK} {l:As} {hR:Hp}
theorem VQ{n:Nat}{y:Nat×Nat}{post:Al}:∀{pre:Al},LZ l n (pre++y::post)=true->∀x∈pre,ZO l n x y=true
 | [],_,x,hx=>by cases hx
 | z::pre,h,x,hx=>by
   simp only[Ce,LZ,Bz] at h;rcases BU.1 hx with rfl | hx
   . exact BB.1 h.1 y AT
   . exact VQ h.2 x hx
theorem S6{n:Nat}{y:Nat×Nat}{post:Al}:∀{pre:Al},LZ l n (pre++y::post)=true->∀x∈post,ZO l n y x=true
 | [],h,x,hx=>by
   simp only[Cz,LZ,Bz] at h;exact BB.1 h.1 x hx
 | z::pre,h,x,hx=>by
   simp only[Ce,LZ,Bz] at h;exact S6 h.2 x hx
theorem ZN{n:Nat}{y:Nat×Nat}{post:Al}:∀{pre:Al},LZ l n (pre++y::post)=true->LZ l n (pre++post)=true
 | [],h=>by
   simp only[Cz,LZ,Bz] at h;exact h.2
 | z::pre,h=>by
   simp only[Ce,LZ,Bz] at h ⊢;refine ⟨BB.2 λ x hx=>?_,ZN h.2⟩;refine BB.1 h.1 x ?_;rcases BC.1 hx with a | a
   . exact CC _ a
   . exact List.mem_append_right _ (List.mem_cons_of_mem _ a)
def Down(l:As)(listed:Array Bool):Prop:=∀k a,l[k]?=some a->listed.getD k false=true->∀e∈a.after,Region.binds .any e=true->listed.getD e.on false=true
theorem SU{listed:Array Bool}(k:Down l listed):∀(f i j:Nat) (b:Oper),l[j]?=some b->(∀e∈b.after,Region.binds .any e=true->listed.getD e.on false=true)->Ajq l f i j=true->listed.getD i false=true
 | 0,i,j,b,_,_,h=>by simp[Ajq] at h
 | f+1,i,j,b,p,FE,h=>by
   simp only[Ajq,p,Cf,Bz,Bool.or_eq_true,beq_iff_eq] at h;obtain ⟨e,o,hb,a⟩:=h;have m:=FE e (by simpa using o) hb;rcases a with rfl | a
   . exact m
   . cases g:l[e.on]? with
     | none=>cases f<;>simp[Ajq,g] at a
     | some n=>exact SU k f i e.on n g (k e.on n g m) a
theorem Ab5{o:Oper}{i:Nat}:waits o i=true↔∃e∈o.after,Region.binds .any e=true/\e.on=i:=by
 simp only[waits,Cf,Bz,beq_iff_eq];constructor
 . rintro ⟨e,b,a,h2⟩;exact ⟨e,by simpa using b,a,h2⟩
 . rintro ⟨e,b,a,h2⟩;exact ⟨e,by simpa using b,a,h2⟩
theorem Ahf{listed:Array Bool}{i:Nat}(h:listed.getD i true=false):listed.getD i false=false:=by
 rw[Bs] at*;cases a:listed[i]? with
 | none=>rfl
 | some b=>rw[a] at h;exact h
structure Inv(l:As)(rest:Al)(listed:Array Bool):Prop where
 iff:∀k,k<l.length->(listed.getD k true=false↔∃x∈rest,x.1=k)
 sz:listed.size=l.length
 down:Down l listed
 Agz:LZ l l.length rest=true
 ops:rest.all (opB l)=true
 len:∀x∈rest,x.1<l.length
theorem Bpk{K:St->Prop}(hK:Aan K){c:Ctx}{Q:Exit->Act->World->Prop}(hQ:∀a w,Good c K a w->Q .normal a w):∀(fuel:Nat) {rest:Al} {listed:Array Bool} {st:St} {a:Act} {w:AI} {F:Nat->Prop} {M:Nat->Mb},
   rest.length=fuel->(rest.map (·.1)).Nodup->Rel c st a w F M->Gp P l hR rest K st->((∃x∈rest,YJ l x)->KN st.hp hR)->Inv l rest listed->wpAny P .any l.toArray Q fuel listed a w:=by
 intro fuel
 induction fuel with
 | zero=>
   intro rest listed st a w F M hlen T V B hle f;obtain rfl:rest=[]:=B0 hlen;refine ⟨?_,hQ _ _ ⟨st,F,M,B,V⟩⟩;refine List.eq_nil_iff_forall_not_mem.2 λ j hj=>?_;obtain ⟨h0,q,E,_⟩:=mem_ready.1 hj;have Dv:j<l.length:=by have:=(Array.getElem?_eq_some_iff.1 E).1;simpa using this
   obtain ⟨x,hx,_⟩:=(f.iff j Dv).1 h0;cases hx
 | succ fuel ih=>
   intro rest listed st a w F M hlen T V B hle f;refine ⟨λ Byw=>?_,λ j hj=>?_⟩
   . exfalso;cases rest with
     | nil=>cases hlen
     | cons x r=>
       have a1:x.1∈Region.ready .any l.toArray listed:=by
         have Dv:=f.len x AT;refine mem_ready.2 ⟨(f.iff x.1 Dv).2 ⟨x,AT,rfl⟩,l[x.1],by simp[Dv],λ e R hb=>?_⟩;have QV:opB l x=true:=BB.1 f.ops x AT;have n:l[x.1]?=some l[x.1]:=Bp Dv;simp only[opB,n,Bz,BB,Bool.or_eq_true,Bool.not_eq_true',BI] at QV;have Bsa:=(QV.2 e (by simpa using R)).resolve_left (by rw[hb];simp);cases hle:listed.getD e.on true with
         | true=>
           rw[Bs] at hle ⊢;have:e.on<listed.size:=by rw[f.sz];exact Bsa
           rw[BW this] at hle ⊢;exact hle
         | false=>
           exfalso;obtain ⟨y,p,W⟩:=(f.iff e.on Bsa).1 hle;have N:waits l[x.1] y.1=true:=Ab5.2 ⟨e,R,hb,W.symm⟩;rcases BU.1 p with rfl | p
           . rw[N] at QV;simp at QV
           . have hp:=f.Agz;simp only[LZ,Bz] at hp;have:=BB.1 hp.1 y p;unfold ZO at this;rw[n] at this;split at this
             . rename_i ox oy g h2;cases g;rw[N] at this;simp at this
             . cases this
       rw[Byw] at a1;cases a1
   . obtain ⟨h0,q,E,FE⟩:=mem_ready.1 hj;have Dv:j<l.length:=by have:=(Array.getElem?_eq_some_iff.1 E).1;simpa using this
     have UK:l[j]?=some q:=by simpa using E
     obtain ⟨x,hx,rfl⟩:=(f.iff j Dv).1 h0;obtain ⟨j,kj⟩:=x;obtain ⟨pre,post,rfl⟩:=List.append_of_mem hx;simp only at E UK h0 FE Dv hj ⊢;have YQ:∀x∈pre,x.2<=1/\∃m,l[x.1]?=some m/\(x.2=0->Vj m.op=true)/\Ap l m q/\(x.2=1->m.dst.getD 0≠q.dst.getD 0/\m.dst.getD 0<10000)/\¬(kj=3/\x.2=0):=by
       intro x hx;have hp:=VQ f.Agz x hx;have Ax2:x∈pre++(j,kj)::post:=by simp[hx]
       have H:=f.len x Ax2;have I:listed.getD x.1 false=false:=Ahf ((f.iff x.1 H).2 ⟨x,Ax2,rfl⟩);have n:l[x.1]?=some l[x.1]:=Bp H;have QV:opB l x=true:=BB.1 f.ops x Ax2;have U:Ajq l l.length x.1 j≠true:=λ ht=>by
         have:=SU f.down _ _ _ q UK FE ht;rw[I] at this;cases this
       have a8:waits q x.1≠true:=λ N=>by
         obtain ⟨e,R,hb,W⟩:=Ab5.1 N;have:=FE e R hb;rw[W,I] at this;cases this
       unfold ZO at hp;rw[n,UK] at hp;simp only[Bz] at hp;obtain ⟨_,hp⟩:=hp;split at hp
       . rename_i v;simp only[Bool.or_eq_true,Bz,BI] at hp;rcases hp with hp | ⟨⟨⟨g,h2⟩,t⟩,h5⟩
         . exact (U hp).elim
         . obtain ⟨s1,s2,s3⟩:=Oper.apart_spec h5;exact ⟨AQ,l[x.1],n,λ _=>t,⟨s1,s2,s3⟩,λ h=>AQ,λ ⟨h,_⟩=>AQ⟩
       split at hp
       . rename_i Boa;simp only[Bz,Bool.or_eq_true] at hp;obtain ⟨Ti,a9⟩:=hp;have Ti:=Ti.resolve_left a8;obtain ⟨s1,s2,s3⟩:=Oper.apart_spec Ti.1;refine ⟨Boa,l[x.1],n,λ Z=>?_,⟨s1,s2,s3⟩,λ g=>?_,λ ⟨t,Z⟩=>?_⟩
         . simp only[opB,n,Z,Bz] at QV;exact QV.1.1
         . have:=Ti.2.resolve_left (by simp[g])
           simpa using this
         . exact U (a9.resolve_left (by simp[t,Z]))
       . simp only[Bz] at hp;exact (U hp.1).elim
     have Xq:opB l (j,kj)=true:=BB.1 f.ops _ AT;have Bs0:((pre++post).map (·.1)).Nodup/\∀x∈pre++post,x.1≠j:=by
       rw[List.map_append,B4] at T;obtain ⟨g,h2,t⟩:=List.nodup_append.1 T;obtain ⟨v,h5⟩:=List.nodup_cons.1 h2;refine ⟨?_,λ x hx e=>?_⟩
       . rw[List.map_append];exact List.nodup_append.2 ⟨g,h5,λ a ha b hb=>t a ha b (List.mem_cons_of_mem _ hb)⟩
       . rcases BC.1 hx with h6 | h6
         . exact t x.1 (List.mem_map_of_mem h6) j AT e
         . exact v (by simp only;rw[<-e];exact List.mem_map_of_mem h6)
     have a7:Inv l (pre++post) (listed.setIfInBounds j true):=by
       refine ⟨λ k hk=>?_,by simp[f.sz],?_,ZN f.Agz,?_,λ x hx=>f.len x (by rcases BC.1 hx with h | h<;>simp[h])⟩
       . by_cases e:j=k
         . subst e;have:(listed.setIfInBounds j true).getD j true=true:=by
             rw[Bs,Array.getElem?_setIfInBounds];simp[f.sz,Dv]
           rw[this];refine ⟨λ h=>(by cases h),λ ⟨x,hx,u⟩=>(Bs0.2 x hx u).elim⟩
         . rw[getD_set_ne true e,f.iff k hk];constructor
           . rintro ⟨x,hx,u⟩;rcases BC.1 hx with h | h
             . exact ⟨x,CC _ h,u⟩
             . rcases BU.1 h with rfl | h
               . exact (e u).elim
               . exact ⟨x,List.mem_append_right _ h,u⟩
           . rintro ⟨x,hx,u⟩;exact ⟨x,by rcases BC.1 hx with h | h<;>simp[h],u⟩
       . intro k ok hk a2 e R hb;by_cases ee:j=k
         . subst ee;rw[UK] at hk;cases hk;exact getD_set_true (FE e R hb)
         . rw[getD_set_ne false ee] at a2;exact getD_set_true (f.down k ok hk a2 e R hb)
       . refine BB.2 λ x hx=>BB.1 f.ops x ?_;rcases BC.1 hx with h | h<;>simp[h]
     have Bs2:(pre++post).length=fuel:=by simp at hlen ⊢;omega
     have next:∀{s a' w' F' M'},Rel c s a' w' F' M'->Gp P l hR (pre++post) K s->((∃x∈pre++post,YJ l x)->KN s.hp hR)->wpAny P .any l.toArray Q fuel (listed.setIfInBounds j true) a' w':=
       λ Ql a4 Bs3=>ih Bs2 Bs0.1 Ql a4 Bs3 a7
     have OT:(∃x∈pre++post,YJ l x)->KN st.hp hR:=λ ⟨x,hx,h2⟩=>hle ⟨x,by rcases BC.1 hx with h | h<;>simp[h],h2⟩;have main:IU st l q.guard (wDq P q (λ s=>((∃x∈pre++post,YJ l x)->KN s.hp hR)/\Gp P l hR (pre++post) K s) st) (Gp P l hR (pre++post) K (st.put q.dst (.Em []))):=by
       have two:∀x∈pre,x.2=0∨x.2=1:=λ x hx=>by have:=(YQ x hx).1;omega
       match kj,B,hle,YQ,Xq,f with
       | 0,B,hle,YQ,Xq,f=>
         have g:=Bl8 hK UK post pre B (λ x hx=>⟨two x hx,by obtain ⟨_,m,g,h2,t,_⟩:=YQ x hx;exact ⟨m,g,h2,t⟩⟩);have hv:Vj q.op=true:=by simp only[opB,UK,Bz] at Xq;exact Xq.1.1
         refine Fx rfl (λ p=>?_) id g;have h2:(Ps P st q).all (λ x=>x.2=st.hp/\Gp P l hR (pre++post) K (st.put q.dst x.1)):=by
           by_cases a3:Xs q.op=true
           . exact Bal (k:=λ d=>Gp P l hR (pre++post) K (st.put q.dst d)) a3 p
           . have hl:=hle ⟨(j,0),AT,.inl ⟨rfl,λ o ho=>by rw[UK] at ho;cases ho;simpa using a3⟩⟩;exact doV (k:=λ d=>Gp P l hR (pre++post) K (st.put q.dst d)) hl.hx hv p
         exact .inl <| Ys (Ans hv) (Rs.Dg (λ x hx=>by
           obtain ⟨e1,e2⟩:=hx;rw[e1];exact ⟨λ S=>by rw[EW];exact OT S,e2⟩) h2)
       | 1,B,hle,YQ,Xq,f=>
         have g:=Bl9 hK UK post pre B (λ x hx=>⟨two x hx,by obtain ⟨_,m,g,h2,t,v,_⟩:=YQ x hx;exact ⟨m,g,h2,t,λ e=>(v e).1⟩⟩);refine Fx rfl (λ p=>?_) id g;obtain ⟨x,hx,hb⟩:=Rs.leaf p;obtain ⟨h2,t,v⟩:=Aiw (K:=λ s=>((∃x∈pre++post,YJ l x)->KN s.hp hR)/\Gp P l hR (pre++post) K s) (Rs.Dg (λ y p=>⟨p.1,λ S=>by
           rw[EW];exact KN.app (.inr ⟨_,rfl⟩) (λ z Z=>by simp only[BF] at Z;subst Z;exact p.1) (OT S),p.2⟩) p)
         exact .inl <| Ys h2 (by rw[t];exact v)
       | 2,B,hle,YQ,Xq,f=>
         have hq:isQ q.op=true:=by simp only[opB,UK,Bz] at Xq;exact Xq.1.1
         have g:=Bco hK UK (.inl rfl) hq post pre V B (λ _=>hle ⟨(j,2),AT,.inr rfl⟩) (λ x hx=>⟨two x hx,by obtain ⟨_,m,g,h2,t,v,_⟩:=YQ x hx;exact ⟨m,g,h2,t,v⟩⟩);exact Fx rfl (λ p=>KQ (λ s Y=>⟨λ _=>Y.1 rfl,Y.2⟩) p) id g
       | 3,B,hle,YQ,Xq,f=>
         have hq:isQ q.op=true:=by simp only[opB,UK,Bz] at Xq;exact Xq.1.1
         have Xr:∀x∈pre++post,¬(x.2=0∨x.2=2):=by
           intro x hx h2;rcases BC.1 hx with h | h
           . obtain ⟨t,m,_,_,_,_,v⟩:=YQ x h;rcases h2 with h2 | h2
             . exact v ⟨rfl,h2⟩
             . omega
           . have hp:=S6 f.Agz x h;unfold ZO at hp;split at hp
             . rw[if_neg AQ,if_neg AT] at hp;rcases h2 with h2 | h2<;>simp[h2] at hp
             . cases hp
         have g:=Bco hK UK (.inr rfl) hq post pre V B (λ S=>by
           rcases S with h | ⟨x,hx,h2⟩
           . cases h
           . exact (Xr x (CC _ hx) (.inl h2)).elim) (λ x hx=>⟨two x hx,by obtain ⟨_,m,g,h2,t,v,_⟩:=YQ x hx;exact ⟨m,g,h2,t,v⟩⟩)
         exact Fx rfl (λ p=>KQ (λ s Y=>⟨λ ⟨x,hx,h2⟩=>(Xr x hx (h2.imp And.left id)).elim,Y.2⟩) p) id g
       | 4,B,hle,YQ,Xq,f=>
         have a0:∀x∈pre,x.2=0/\∃m,l[x.1]?=some m/\Vj m.op=true/\Ap l m q/\Xs m.op=true:=by
           intro x hx;have hp:=VQ f.Agz x hx;have Ax2:x∈pre++(j,4)::post:=by simp[hx]
           have H:=f.len x Ax2;have I:listed.getD x.1 false=false:=Ahf ((f.iff x.1 H).2 ⟨x,Ax2,rfl⟩);have n:l[x.1]?=some l[x.1]:=Bp H;unfold ZO at hp;rw[n,UK] at hp;simp only[B5,Bz,Bool.or_eq_true,BI] at hp;rcases hp.2 with h | ⟨⟨⟨g,h2⟩,t⟩,h5⟩
           . have:=SU f.down _ _ _ q UK FE h;rw[I] at this;cases this
           . obtain ⟨s1,s2,s3⟩:=Oper.apart_spec h5;exact ⟨g,l[x.1],n,t,⟨s1,s2,s3⟩,h2⟩
         have Xr:∀x∈pre++post,¬YJ l x:=by
           intro x hx h2;rcases BC.1 hx with h | h
           . obtain ⟨g1,m,g2,_,_,g3⟩:=a0 x h;rcases h2 with ⟨_,h2⟩ | h2
             . have:=h2 m g2;rw[g3] at this;cases this
             . omega
           . have hp:=S6 f.Agz x h;unfold ZO at hp;split at hp
             . rename_i ox oy e1 e2;by_cases v:x.2=4
               . rcases h2 with ⟨h2,_⟩ | h2<;>omega
               . rw[if_neg v,if_neg AT] at hp;rcases h2 with ⟨h2,_⟩ | h2<;>simp[h2] at hp
             . cases hp
         have g:=Bl7 hK UK post pre B (λ x hx=>by obtain ⟨g1,m,g2,g3,g4,_⟩:=a0 x hx;exact ⟨g1,m,g2,g3,g4⟩);exact Fx rfl (λ p=>KQ (λ s Y=>⟨λ ⟨x,hx,h2⟩=>(Xr x hx h2).elim,Y⟩) p) id g
       | kj+5,B,hle,YQ,Xq,f=>simp[opB,UK] at Xq
     unfold wpOp;rw[E];simp only;have a6:=ZZ (ops:=l.toArray) V main;rcases a6 with ⟨N,p⟩ | ⟨N,hn⟩
     . rw[if_pos N];refine .inl (Oper.wp_mono (λ a' w' a5=>?_) (Avu V p Q));obtain ⟨s,F',M',⟨g,h2⟩,Ql⟩:=a5;exact next Ql h2 g
     . rw[if_neg (by rw[N];simp)];exact next (V.put (.Em [] #[] rfl (λ i d hd=>by simp at hd)) q.dst) hn (λ S=>by rw[EW];exact OT S)
end
end Go.Am
namespace Go.Am
open Go
section
variable {P:AK} {l:As} {hR:Hp}
theorem Uy{K K':St->Prop}(a:∀s,K s->K' s):∀(r:Al) {st:St},Gp P l hR r K st->Gp P l hR r K' st
 | [],st,h=>a _ h
 | (i,kd)::r,st,h=>by
   simp only[Gp] at h ⊢;split at h
   . exact h.elim
   . rename_i o g;(try simp only[g]);refine Fx rfl (λ b=>?_) (λ f=>Uy a r f) h;split at b
     . exact Rs.Dg (λ x hx=>Uy a r hx) b
     . exact Rs.Dg (λ x hx=>⟨hx.1,Uy a r hx.2⟩) b
     . exact KQ (λ s e=>⟨e.1,Uy a r e.2⟩) b
     . exact KQ (λ s e=>Uy a r e) b
def wDg(P:AK)(o:Oper)(K:St->Prop)(st:St):Prop:=
 match Ez o.op with
 | some (f,args)=>(KH st f args).OF (Af0 P o K st) λ x=>RC (Af0 P o K st) P x.2.2 x.1 x.2.1 (o.dst.getD 0) λ d a=>K (({st with hp:=a}:St).put o.dst d)
 | none=>(Ps P st o).all λ x=>K (({st with hp:=x.2}:St).put o.dst x.1)
theorem Rs.TW{α:Type}{S T:Prop}{k k':α->Prop}(f:∀x,k x->k' x∨T)(a:S->T):∀{r:Rs α},r.OF S k->r.all k'∨T
 | .fail,h=> .inr (a h)
 | .ret p x,h=>(f x h.2).elim (λ h2=> .inl ⟨h.1,h2⟩) .inr
 | .split b x y,h=>by
   cases b
   . exact (Rs.TW f a (h.2 rfl)).elim (λ h2=> .inl ⟨λ e=>(BV e).elim,λ _=>h2⟩) .inr
   . exact (Rs.TW f a (h.1 rfl)).elim (λ h2=> .inl ⟨λ _=>h2,λ e=>(BV e.symm).elim⟩) .inr
theorem Bl1{o:Oper}{K:St->Prop}{st:St}(h:wDg P o K st):wDq P o K st:=by
 unfold wDg at h;unfold wDq Yu;split at h
 . rename_i f args a;(try simp only[a]);refine (Rs.TW (k':=λ x:FuncId×Ai×Hp=>LD P x.2.2 x.1 x.2.1 (o.dst.getD 0) λ d b=>K (({st with hp:=b}:St).put o.dst d)) (λ x hx=>Zf hx) id h).imp (λ h2=>?_) id;exact Rs.Ie (Rs.Dg (λ x hx=>Aiv hx) h2)
 . rename_i a;(try simp only[a]);exact .inl (Rs.Ie h)
def Gw(P:AK)(l:As)(hR:Hp):Al->(St->Prop)->St->Prop
 | [],K,a=>K a
 | (i,kd)::r,K,a=>match l[i]? with
   | none=>False
   | some o=>IU a l o.guard (match kd with
     | 0=>(Ps P {a with hp:=hR} o).all λ x=>Gw P l hR r K (a.put o.dst x.1)
     | 1=>(Nb P a (o.dst.getD 0) o.op).all λ x=>get a.hp (o.dst.getD 0)=none/\Gw P l hR r K (({a with hp:=(o.dst.getD 0,x.2)::a.hp}:St).put o.dst x.1)
     | 2=>wDg P o (λ s=>KN s.hp hR/\Gw P l hR r K s) a
     | _=>wDg P o (Gw P l hR r K) a) (Gw P l hR r K (a.put o.dst (.Em [])))
theorem Aj3{K:St->Prop}:∀(r:Al) {st:St},Gw P l hR r K st->Gp P l hR r K st
 | [],st,h=>h
 | (i,e)::r,st,h=>by
   simp only[Gw] at h;simp only[Gp];split at h
   . exact h.elim
   . rename_i o g;(try simp only[g]);refine Fx rfl (λ a=>?_) (λ f=>Aj3 r f) h
     match e,a with
     | 0,a=>exact Rs.Dg (λ x hx=>Aj3 r hx) a
     | 1,a=>exact Rs.Dg (λ x hx=>⟨hx.1,Aj3 r hx.2⟩) a
     | 2,a=>exact KQ (λ s b=>⟨b.1,Aj3 r b.2⟩) (Bl1 a)
     | e+3,a=>exact KQ (λ s b=>Aj3 r b) (Bl1 a)
def G(P:AK)(l:As)(hR:Hp)(r:Al)(k:Kt)(st:St):Prop:=Gw P l hR r (k.Ij P .normal) st
theorem Awe{p:Al}(h:RW l p=true):(p.map (·.1)).Nodup/\p.length=l.length/\Inv l p (Array.replicate l.length false):=by
 simp only[RW,Bz,beq_iff_eq] at h;obtain ⟨⟨⟨⟨g,j⟩,h2⟩,m⟩,n⟩:=h;have hlen:∀x∈p,x.1<l.length:=by
   intro x hx;have:=BB.1 h2 x hx;unfold opB at this;split at this
   . rename_i o r;exact (Bn.1 r).1
   . cases this
 have OT:List.range l.length ⊆ p.map (·.1):=by
   intro i q;have:=BB.1 n i q;obtain ⟨x,hx,a⟩:=Cf.1 this;exact List.mem_map.2 ⟨x,hx,by simpa using a⟩
 have f:=Ah4 g;refine ⟨f,m,⟨λ k b=>?_,AT,λ k s b e=>?_,j,h2,hlen⟩⟩
 . rw[Bs,Array.getElem?_replicate,if_pos b];refine ⟨λ _=>?_,λ _=>rfl⟩;obtain ⟨x,hx,a⟩:=BS.1 (OT (List.mem_range.2 b));exact ⟨x,hx,a⟩
 . exfalso;rw[Bs,Array.getElem?_replicate] at e;split at e<;>simp at e
theorem Yb{id:Nat}{p:Al}{k:Kt}{st:St}(hR:Hp)(n:P.follows .mixedOrders=true)(f:RW l p=true)(hle:KN st.hp hR)(h:G P l hR p k st):X P (.region id l.toArray true) k st:=by
 refine .inr ⟨rfl,λ c a w F M e=>?_⟩;obtain ⟨b,m,i⟩:=Awe f;refine wp_region_any n ?_;have JE:Rel c st a {w with drawn:=w.drawn+1} F M:=e.drew;have:=Bpk (P:=P) (l:=l) (hR:=hR) (Aan.of (k.Ij P .normal)) (c:=c) (Q:=QC c (k.Ij P)) (λ a w ⟨s,F,M,⟨q,g,j⟩,e⟩=>⟨q,F,M,j,e.eqv g⟩) l.length m b JE
   (Uy (λ s o=>⟨s,QS.refl s,o⟩) p (Aj3 p h)) (λ _=>hle) i
 simpa using this
end
def Hd(a:Nat)(h hR:Hp):Prop:=match a with
 | 2=>KN h hR
 | _=>True
theorem Bph(h hR):Hd 2 h hR=KN h hR:=nd rfl
theorem Bi0(h hR):Hd 3 h hR=True:=nd rfl
def Gf(P:AK)(l:As)(hR:Hp)(r:Al)(k:Kt)(o:Oper)(st:St)(x:Rs (D×Hp)):Prop:=x.all λ x=>G P l hR r k (st.put o.dst x.1)
def Ga(P:AK)(l:As)(hR:Hp)(r:Al)(k:Kt)(o:Oper)(st:St)(x:Rs (D×AO)):Prop:=
 x.all λ x=>get st.hp (o.dst.getD 0)=none/\G P l hR r k (({st with hp:=(o.dst.getD 0,x.2)::st.hp}:St).put o.dst x.1)
def Gs(P:AK)(l:As)(hR:Hp)(r:Al)(k:Kt)(a:Nat)(o:Oper)(st:St)(x:Rs (D×Hp)):Prop:=
 x.all λ x=>Hd a x.2 hR/\G P l hR r k (({st with hp:=x.2}:St).put o.dst x.1)
def Bq(P:AK)(l:As)(hR:Hp)(r:Al)(k:Kt)(a:Nat)(o:Oper)(st:St):Prop:=Af0 P o (λ s=>Hd a s.hp hR/\G P l hR r k s) st
def Gc(P:AK)(l:As)(hR:Hp)(r:Al)(k:Kt)(a:Nat)(o:Oper)(st:St)(x:Rs (FuncId×Ai×Hp)):Prop:=
 x.OF (Bq P l hR r k a o st) λ x=>RC (Bq P l hR r k a o st) P x.2.2 x.1 x.2.1 (o.dst.getD 0) λ d b=>Hd a b hR/\G P l hR r k (({st with hp:=b}:St).put o.dst d)
def Gk(P:AK)(l:As)(hR:Hp)(r:Al)(k:Kt)(b:Nat)(dst:Option Nat)(st:St)(f:AH)(ds:Ai)(h:Hp)(T:Aq)(S:Prop):Prop:=
 (C3 P f (M8 (idx T base) ds) (sub h (idx T base) base T) λ a x=>fresh (dst.getD 0) h a/\Hd b (merge T (dst.getD 0) h a) hR/\G P l hR r k (({st with hp:=merge T (dst.getD 0) h a}:St).put dst (x.GA (back T (dst.getD 0)))))∨S
def Ge(P:AK)(l:As)(hR:Hp)(r:Al)(k:Kt)(o:Oper)(st:St):Nat->Prop
 | 0=>Gf P l hR r k o st (Ps P {st with hp:=hR} o)
 | 1=>Ga P l hR r k o st (Nb P st (o.dst.getD 0) o.op)
 | 2=>match Ez o.op with
   | some (f,args)=>Gc P l hR r k 2 o st (KH st f args)
   | none=>Gs P l hR r k 2 o st (Ps P st o)
 | _=>match Ez o.op with
   | some (f,args)=>Gc P l hR r k 3 o st (KH st f args)
   | none=>Gs P l hR r k 3 o st (Ps P st o)
def Gd(P:AK)(l:As)(hR:Hp)(r:Al)(k:Kt)(a:Nat)(o:Oper)(st:St):Gv->Prop
 | .yes=>Ge P l hR r k o st a
 | .no=>G P l hR r k (st.put o.dst (.Em []))
 | .cond b=>WIf b (Ge P l hR r k o st a) (G P l hR r k (st.put o.dst (.Em [])))
 | .bad=>False
def Gg(P:AK)(l:As)(hR:Hp)(r:Al)(k:Kt)(a:Nat)(st:St):Option Oper->Prop
 | none=>False
 | some o=>Gd P l hR r k a o st (PM st l o.guard)
section
variable {P:AK} {l:As} {hR:Hp} {r:Al} {k:Kt} {o:Oper} {st:St} {kd:Nat} {b:Bool} {dst:Option Nat}
theorem Ama{f:AM}{args:AD}{K:St->Prop}(a:Ez o.op=some (f,args)):wDg P o K st=(KH st f args).OF (Af0 P o K st) λ x=>RC (Af0 P o K st) P x.2.2 x.1 x.2.1 (o.dst.getD 0) λ d h'=>K (({st with hp:=h'}:St).put o.dst d):=by
 unfold wDg;rw[a]
theorem Am9{K:St->Prop}(a:Ez o.op=none):wDg P o K st=(Ps P st o).all λ x=>K (({st with hp:=x.2}:St).put o.dst x.1):=by
 unfold wDg;rw[a]
theorem Btq:G P l hR [] k st=J P k .normal st:=nd rfl
theorem Bps(i:Nat):G P l hR ((i,kd)::r) k st=Gg P l hR r k kd st l[i]?:=by
 unfold G;simp only[Gw];cases l[i]? with
 | none=>rfl
 | some o=>
   simp only[Gg];rw[KG];have e:(match kd with
     | 0=>(Ps P {st with hp:=hR} o).all λ x=>Gw P l hR r (k.Ij P .normal) (st.put o.dst x.1)
     | 1=>(Nb P st (o.dst.getD 0) o.op).all λ x=>get st.hp (o.dst.getD 0)=none/\Gw P l hR r (k.Ij P .normal) (({st with hp:=(o.dst.getD 0,x.2)::st.hp}:St).put o.dst x.1)
     | 2=>wDg P o (λ s=>KN s.hp hR/\Gw P l hR r (k.Ij P .normal) s) st
     | _=>wDg P o (Gw P l hR r (k.Ij P .normal)) st)=Ge P l hR r k o st kd:=by
     match kd with
     | 0=>rfl
     | 1=>rfl
     | 2=>
       simp only[Ge];cases a:Ez o.op with
       | none=>simp only[Am9 a,EW];rfl
       | some x=>obtain ⟨f,args⟩:=x;simp only[Ama a,Gc,Bq,Hd,EW];rfl
     | kd+3=>
       simp only[Ge];cases a:Ez o.op with
       | none=>simp only[Am9 a,Gs,Hd,true_and];rfl
       | some x=>obtain ⟨f,args⟩:=x;simp only[Ama a,Gc,Bq,Hd,true_and];rfl
   cases PM st l o.guard with
   | yes=>exact e
   | no=>rfl
   | bad=>rfl
   | cond b=>exact B3 (λ x=>WIf b x (Gw P l hR r (k.Ij P .normal) (st.put o.dst (.Em [])))) e
theorem Bkn:Gg P l hR r k kd st (some o)=Gd P l hR r k kd o st (PM st l o.guard):=nd rfl
theorem Bpp:Gd P l hR r k kd o st .yes=Ge P l hR r k o st kd:=nd rfl
theorem Btp:Gd P l hR r k kd o st .no=G P l hR r k (st.put o.dst (.Em [])):=nd rfl
theorem Bkr:Gd P l hR r k kd o st (.cond true)=Ge P l hR r k o st kd:=by simp[Gd]
theorem Bi4:Gd P l hR r k kd o st (.cond false)=G P l hR r k (st.put o.dst (.Em [])):=by simp[Gd]
theorem Bkp:Ge P l hR r k o st 0=Gf P l hR r k o st (Ps P {st with hp:=hR} o):=nd rfl
theorem Bpo:Ge P l hR r k o st 1=Ga P l hR r k o st (Nb P st (o.dst.getD 0) o.op):=nd rfl
theorem Bpn:Ge P l hR r k o st 2=match Ez o.op with
   | some (f,args)=>Gc P l hR r k 2 o st (KH st f args)
   | none=>Gs P l hR r k 2 o st (Ps P st o):=nd rfl
theorem Bi3:Ge P l hR r k o st 3=match Ez o.op with
   | some (f,args)=>Gc P l hR r k 3 o st (KH st f args)
   | none=>Gs P l hR r k 3 o st (Ps P st o):=nd rfl
theorem Bkq:Ge P l hR r k o st 4=match Ez o.op with
   | some (f,args)=>Gc P l hR r k 3 o st (KH st f args)
   | none=>Gs P l hR r k 3 o st (Ps P st o):=nd rfl
theorem Bpm(p:Prop)(d:D)(h:Hp):Gf P l hR r k o st (.ret p (d,h))=(p/\G P l hR r k (st.put o.dst d)):=nd rfl
theorem Bko(x y:Rs (D×Hp)):Gf P l hR r k o st (.split true x y)=Gf P l hR r k o st x:=by simp[Gf,Rs.all]
theorem Bi2(x y:Rs (D×Hp)):Gf P l hR r k o st (.split false x y)=Gf P l hR r k o st y:=by simp[Gf,Rs.all]
theorem Bpr(p:Prop)(d:D)(a:AO):Ga P l hR r k o st (.ret p (d,a))=(p/\get st.hp (o.dst.getD 0)=none/\G P l hR r k (({st with hp:=(o.dst.getD 0,a)::st.hp}:St).put o.dst d)):=nd rfl
theorem Bpj(p:Prop)(d:D)(h:Hp):Gs P l hR r k kd o st (.ret p (d,h))=(p/\Hd kd h hR/\G P l hR r k (({st with hp:=h}:St).put o.dst d)):=nd rfl
theorem Bpq(p:Prop)(f:AH)(ds:Ai)(h:Hp):Gc P l hR r k kd o st (.ret p (f,ds,h))=
   (p/\(FO h (E8 ds)).Nodup/\((FO h (E8 ds)).all λ id=>(get h id).isSome)=true/\Gk P l hR r k kd o.dst st f ds h (FO h (E8 ds)) (Bq P l hR r k kd o st)):=nd rfl
end
def Cc(P:AK)(s:Bool)(ops rest:As)(k:Kt)(dst:Option Nat)(st:St)(h:Hp)(T:Aq)(f:AH)(ds:Ai)(b:Hp)(S:Prop):Prop:=
 (C3 P f ds b λ a r=>fresh (dst.getD 0) h a/\O P s ops rest k (({st with hp:=merge T (dst.getD 0) h a}:St).put dst (r.GA (back T (dst.getD 0)))))∨S
theorem Btu(P)(s)(ops rest)(k)(dst)(st)(f)(ds)(h)(T)(S:Prop):
   Ck P s ops rest k dst st f ds h T S=Cc P s ops rest k dst st h T f (M8 (idx T base) ds) (sub h (idx T base) base T) S:=nd rfl
theorem Gn{P}{s}{ops rest}{k}{dst}{st}{h}{T}{f}{ds}{a}{S:Prop}{R:Hp->D->Prop}(b:C3 P f ds a R)
   (e:∀h' r,R h' r->fresh (dst.getD 0) h h'/\O P s ops rest k (({st with hp:=merge T (dst.getD 0) h h'}:St).put dst (r.GA (back T (dst.getD 0))))):Cc P s ops rest k dst st h T f ds a S:= .inl (b.mono e)
def Kc(P:AK)(f:AH)(ds:Ai)(b h:Hp)(T:Aq)(q:Nat)(k:D->Hp->Prop):Prop:=C3 P f ds b λ a r=>fresh q h a/\k (r.GA (back T q)) (merge T q h a)
theorem Btm{P}{f}{ds}{a h}{T}{q}{k:D->Hp->Prop}{R:Hp->D->Prop}(b:C3 P f ds a R)
   (e:∀h' r,R h' r->fresh q h h'/\k (r.GA (back T q)) (merge T q h h')):Kc P f ds a h T q k:=b.mono e
theorem Bh8(P)(h)(f)(ds)(q)(k:D->Hp->Prop):
   LD P h f ds q k=((FO h (E8 ds)).Nodup/\((FO h (E8 ds)).all λ id=>(get h id).isSome)=true/\
     Kc P f (M8 (idx (FO h (E8 ds)) base) ds) (sub h (idx (FO h (E8 ds)) base) base (FO h (E8 ds))) h (FO h (E8 ds)) q k):=nd rfl
theorem Bpw{P}{ops rest}{k}{dst}{st}{h}{T}{f}{ds}{m}{o}{b}{args}{g}{cap}
   (e:Ez o.op=some (b,args)) (i:ev st b= .fn g cap) (j:LD P st.hp g (args.map (ev st)++cap) (o.dst.getD 0) λ d h'=>O P true ops rest k (({st with hp:=h'}:St).put o.dst d)):
   Cc P true ops rest k dst st h T f ds m (Sm P true ops rest k o st):=by
 refine .inr ⟨rfl,λ c a w F M Q l=>?_⟩;exact Awg l e i j Q
def Gh(P:AK)(l:As)(hR:Hp)(r:Al)(k:Kt)(e:Nat)(dst:Option Nat)(st:St)(h:Hp)(T:Aq)(f:AH)(ds:Ai)(b:Hp)(S:Prop):Prop:=
 (C3 P f ds b λ a x=>fresh (dst.getD 0) h a/\Hd e (merge T (dst.getD 0) h a) hR/\G P l hR r k (({st with hp:=merge T (dst.getD 0) h a}:St).put dst (x.GA (back T (dst.getD 0)))))∨S
theorem Bto(P)(l)(hR)(r)(k)(kd)(dst)(st)(f)(ds)(h)(T)(S:Prop):
   Gk P l hR r k kd dst st f ds h T S=Gh P l hR r k kd dst st h T f (M8 (idx T base) ds) (sub h (idx T base) base T) S:=nd rfl
theorem Avi{P}{l}{hR}{r}{k}{b}{dst}{st}{h}{T}{f}{ds}{a}{S:Prop}{R:Hp->D->Prop}(e:C3 P f ds a R)
   (g:∀h' x,R h' x->fresh (dst.getD 0) h h'/\Hd b (merge T (dst.getD 0) h h') hR/\G P l hR r k (({st with hp:=merge T (dst.getD 0) h h'}:St).put dst (x.GA (back T (dst.getD 0))))):Gh P l hR r k b dst st h T f ds a S:= .inl (e.mono g)
theorem Btv{P}{l}{hR}{r}{k}{b}{o}{st}{a}{args}{g}{cap ds}{R:Hp->D->Prop}
   (p:Ez o.op=some (a,args)) (m:ev st a= .fn g cap) (j:C3 P g ds [] R) (hb:OI st.hp (args.map (ev st)++cap) ds)
   (n:∀h x,R h x->h=[]/\x.flat=true/\Hd b st.hp hR/\G P l hR r k (st.put o.dst x)):Bq P l hR r k b o st:=
 ⟨a,args,g,cap,ds,p,m,hb,j.mono λ h x hx=>by
   obtain ⟨e,h2,f,i⟩:=n h x hx;exact .inl ⟨e,by rw[EW];exact f,by rw[Abs h2];exact i⟩⟩
theorem Bpl{P}{l}{hR}{r}{k}{a}{o}{st}{b}{args}{g}{cap ds}{R:Hp->D->Prop}{dst}{h}{T}{e}{Yn}{n}{st'}
   (m:Ez o.op=some (b,args)) (i:ev st b= .fn g cap) (f:C3 P g ds [] R) (hb:OI st.hp (args.map (ev st)++cap) ds)
   (j:∀h x,R h x->h=[]/\x.flat=true/\Hd a st.hp hR/\G P l hR r k (st.put o.dst x)):Gh P l hR r k a dst st' h T e Yn n (Bq P l hR r k a o st):= .inr (Btv m i f hb j)
theorem Bpa{P}{ops rest}{k}{st}{o}{b}{args}{g}{cap ds}{R:Hp->D->Prop}
   (m:Ez o.op=some (b,args)) (j:ev st b= .fn g cap) (i:C3 P g ds [] R) (hb:OI st.hp (args.map (ev st)++cap) ds)
   (l:∀h x,R h x->h=[]/\x.flat=true/\O P true ops rest k (st.put o.dst x)):Sm P true ops rest k o st:=
 ⟨rfl,λ c a w F M Q n=>RJ n ⟨b,args,g,cap,ds,m,j,hb,i.mono λ h x hx=>by
   obtain ⟨e,h2,f⟩:=l h x hx;exact .inl ⟨e,by rw[Abs h2];exact f⟩⟩ Q⟩
theorem Bkv{P}{ops rest}{k}{dst}{st st'}{h}{T}{e}{Yn}{n}{o}{b}{args}{g}{cap ds}{R:Hp->D->Prop}
   (l:Ez o.op=some (b,args)) (i:ev st b= .fn g cap) (f:C3 P g ds [] R) (hb:OI st.hp (args.map (ev st)++cap) ds)
   (j:∀h x,R h x->h=[]/\O P true ops rest k (st.put o.dst x.Lw)):Cc P true ops rest k dst st' h T e Yn n (Sm P true ops rest k o st):=
 .inr ⟨rfl,λ c a w F M Q m=>RJ m ⟨b,args,g,cap,ds,l,i,hb,f.mono λ h x hx=> .inl (j h x hx)⟩ Q⟩
theorem Bpx{P}{ops rest}{k}{dst}{st st'}{h}{T}{b}{Yn}{l}{o}{a}{args}{g}{cap ds}{R:Hp->D->Prop}
   (j:Ez o.op=some (a,args)) (f:ev st a= .fn g cap) (e:C3 P g ds [] R) (hb:OI st.hp (args.map (ev st)++cap) ds)
   (i:∀h x,R h x->h=[]/\x.flat=true/\O P true ops rest k (st.put o.dst x)):Cc P true ops rest k dst st' h T b Yn l (Sm P true ops rest k o st):= .inr (Bpa j f e hb i)
theorem Alp{P}{l}{hR}{r}{k}{b}{o}{st}{a}{args}{g}{cap ds}{R:Hp->D->Prop}{dst}{h}{T}{f}{Yn}{v}{st'}
   (u:Ez o.op=some (a,args)) (q:ev st a= .fn g cap) (p:C3 P g ds [] R) (hb:OI st.hp (args.map (ev st)++cap) ds)
   (s:∀h x,R h x->∃t sz es,h=[(0,.arr t sz es)]/\(∀e∈es,∀c∈e,c.flat=true)/\get st.hp (Te o.dst)=none/\Hd b ((Te o.dst,.arr t sz es)::st.hp) hR/\G P l hR r k (st.made o.dst (.arr t sz es) x)):Gh P l hR r k b dst st' h T f Yn v (Bq P l hR r k b o st):=
 .inr ⟨a,args,g,cap,ds,u,q,hb,p.mono λ h x hx=>by
   obtain ⟨t,sz,es,i,h2,j,m,n⟩:=s h x hx;exact .inr ⟨t,sz,es,i,h2,j,by simp only[St.made,EW];exact m,n⟩⟩
theorem Avj{P}{ops rest}{k}{dst}{st st'}{h}{T}{f}{Yn}{p}{o}{b}{args}{g}{cap ds}{R:Hp->D->Prop}
   (m:Ez o.op=some (b,args)) (j:ev st b= .fn g cap) (i:C3 P g ds [] R) (hb:OI st.hp (args.map (ev st)++cap) ds)
   (l:∀h x,R h x->∃t sz es,h=[(0,.arr t sz es)]/\(∀e∈es,∀c∈e,c.flat=true)/\get st.hp (Te o.dst)=none/\O P true ops rest k (st.made o.dst (.arr t sz es) x)):Cc P true ops rest k dst st' h T f Yn p (Sm P true ops rest k o st):=
 .inr ⟨rfl,λ c a w F M Q n=>RJ n ⟨b,args,g,cap,ds,m,j,hb,i.mono λ h x hx=> .inr (l h x hx)⟩ Q⟩
attribute [go_sem] Rt Btu Bto base AO.GA fresh merge back UF pick List.filter_cons List.filter_nil List.mem_cons List.not_mem_nil or_false false_or or_true true_or List.nodup_cons List.contains_cons List.contains_nil Bool.or_false Bool.or_true Bool.false_or Bool.true_or
attribute [go_sem] Bph Bi0 Btq Bps Bkn Bpp Btp Bkr Bi4 Bkp Bpo Bpn Bi3 Bkq Bpm Bko Bi2 D.Lw M6 D.LX Mm Te St.made Pd.flat Bpr Bpj Bpq Nb IY KN
end Go.Am
end
