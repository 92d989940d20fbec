/- Texts of this proof, what it rests on, merged: part C. -/
import Derived.ChangeArms
import Derived.ChangeSame
import Derived.OpenShut
import Derived.RowKit
import Derived.Test.YtlfbkkljgighkaaGreatDoorSpB
section
set_option linter.unusedVariables false
set_option linter.unusedSimpArgs false
namespace Go.Am
open Go Go.ChangeShapes Go.RowKit
def Af9(P:AK):Nat->List Field->Option Nat
 | o,[]=>some o
 | o,f::r=>if f.offset=o then Af9 P (o+P.cellsOf f.type) r else none
def HB(P:AK):Nat->TypeId->Bool
 | 0,_=>false
 | n+1,t=>match P.underlying t with
   | some .bool | some (.int _) | some .string=>true
   | some (.slice e)=>decide (0<P.cellsOf e)&&HB P n e
   | some (.struct a)=>decide (Af9 P 0 a.toList=some (P.cellsOf t))&&a.toList.all λ f=>HB P n f.type
   | some (.array m e)=>decide (m*P.cellsOf e=P.cellsOf t)&&HB P n e
   | _=>false
mutual
def FJ {H:Type}:DataW H->Av
  | .lit (.int k n)=>[.int k n]
  | .lit (.bool b)=>[.bool b]
  | .lit (.string l)=>[.str l]
  | .nil=>[.sl []]
  | .slice elems _=>[.sl (Ae0 elems)]
  | .agg parts=>Oo parts
  | _=>[]
def Ae0 {H:Type}:List (DataW H)->Ae
  | []=>[]
  | d::r=>FJ d::Ae0 r
def Oo {H:Type}:List (DataW H)->Av
  | []=>[]
  | d::r=>FJ d++Oo r
end
def Auc{H:Type}(d:DataW H):D:= .p ((FJ d).getD 0 (.bool false))
def PRl(F:Nat->Prop)(w:AI)(a:Av)(vs:At):Prop:=a.length=vs.length/\∀(i:Nat) x,a[i]?=some x->PR F w x (vs.getD i undef)
section
variable {H:Type} {enc:TypeId×Value->H} {P:AK} {w:AI} {spare:Nat->Bool} {held:Bool}
theorem PRl.append{F:Nat->Prop}{e f:Av}{vs b:At}(h:PRl F w e vs)(h':PRl F w f b):PRl F w (e++f) (vs++b):=by
 refine ⟨by simp[h.1,h'.1],λ i x hx=>?_⟩;rw[BY] at hx;rw[Bu,BY,<-h.1];split at hx
 . rename_i a;rw[if_pos a];simpa [List.getD] using h.2 i x hx
 . rename_i a;rw[if_neg a];simpa [List.getD] using h'.2 _ x hx
theorem PRl.one{F:Nat->Prop}{x:Pd}{v:AJ}(h:PR F w x v):PRl F w [x] [v]:=by
 refine ⟨rfl,λ i y a=>?_⟩;cases i with
 | zero=>simp only[BF,Bo] at a;subst a;exact h
 | succ i=>simp at a
theorem XZ{F:Nat->Prop}{cs:At}{n:Nat}{m:Nat}(u:∀t,HB P m t=true->∀cs x,DataW.trod enc P w 0 spare held n t cs=some x->PRl F w (FJ x.1) cs):
   ∀(l:List Field) (b:List (DataW H×List MemPlace)) (o a:Nat),b.length=l.length->Af9 P o l=some a->cs.length=a->(l.all λ f=>HB P m f.type)=true->
     (∀(i:Nat) (f:Field),l[i]?=some f->DataW.trod enc P w 0 spare held n f.type ((cs.drop f.offset).take (P.cellsOf f.type))=b[i]?)->PRl F w (Oo (b.map (·.1))) (cs.drop o)
 | [],b,o,a,p,j,k,_,_=>by
   have:b=[]:=BZ p;subst this;simp only[Af9,Bo] at j;subst j;rw[Cu AQ];exact ⟨rfl,λ i x hx=>by simp[Oo] at hx⟩
 | f::r,b,o,a,p,j,k,q,hx=>by
   cases b with
   | nil=>simp at p
   | cons x b=>
     simp only[Af9] at j;split at j
     case isFalse=>cases j
     rename_i z;simp only[List.all_cons,BA] at q;have s:=hx 0 f rfl;simp only[BF] at s;have v:=u f.type q.1 _ _ s;have h2:=XZ u r b (o+P.cellsOf f.type) a (by simpa using p) j k q.2 (λ i g y=>by simpa using hx (i+1) g (by simpa using y));have e:cs.drop o=(cs.drop f.offset).take (P.cellsOf f.type)++cs.drop (o+P.cellsOf f.type):=by
       rw[z,<-List.drop_drop,List.take_append_drop]
     rw[e];simp only[B0,Oo];exact v.append h2
theorem q0{F:Nat->Prop}{cs:At}{e:AG}{n k:Nat}(j:∀cs x,DataW.trod enc P w 0 spare held n e cs=some x->PRl F w (FJ x.1) cs):
   ∀(b:List (DataW H×List MemPlace)) (a:Nat),cs.length=(a+b.length)*k->(∀i,i<b.length->DataW.trod enc P w 0 spare held n e ((cs.drop ((a+i)*k)).take k)=b[i]?)->
     PRl F w (Oo (b.map (·.1))) (cs.drop (a*k))
 | [],a,f,_=>by
   rw[Cu (by simp at f;omega)];exact ⟨rfl,λ i x hx=>by simp[Oo] at hx⟩
 | x::b,a,f,hx=>by
   have g:=hx 0 AT;simp only[B8,BF] at g;have l:=j _ _ g;have h2:=q0 j b (a+1) (by rw[f];simp only[Br];rw[show a+(b.length+1)=a+1+b.length by omega]) (λ i m=>by
     have:=hx (i+1) (by simp only[Br];omega);rw[show a+(i+1)=a+1+i by omega] at this
     simpa using this)
   have e:cs.drop (a*k)=(cs.drop (a*k)).take k++cs.drop ((a+1)*k):=by
     rw[B6,Nat.one_mul,<-List.drop_drop,List.take_append_drop]
   rw[e];simp only[B0,Oo];exact l.append h2
theorem Zy{base n:Nat}{a:Addr}{cs:At}(h:w.cells? base a n=some cs):cs.length=n/\∀j,j<n->w.cell? (a.add j)=cs[j]?:=by
 unfold World.cells? at h;split at h
 . exact ⟨by simpa using mapM_some_length h,λ j b=>mapM_some_get h j j (by simp[b])⟩
 . cases h
theorem Ai4(a:List (DataW H×List MemPlace)):Ae0 (a.map (·.1))=a.map λ x=>FJ x.1:=by
 induction a with
 | nil=>rfl
 | cons x r b=>simp[Ae0,b]
theorem Aqt{w:AI}{a:Addr}{v:AJ}(h:w.cell? a=some v):∃c t b,w.heap[a.block]?=some (.cells c t b)/\a.spot=none/\c[a.off]?=some v:=by
 unfold World.cell? at h;split at h
 . rename_i c t b hb;split at h
   . cases h
   . rename_i e;exact ⟨c,t,b,hb,by simpa using e,h⟩
 . cases h
theorem Blu{F:Nat->Prop}(hF:∀b,b<w.heap.size->F b):∀(m:Nat) (t:AG),HB P m t=true->∀(fuel:Nat) (cs:At) (x:DataW H×List MemPlace),
   DataW.trod enc P w 0 spare held fuel t cs=some x->PRl F w (FJ x.1) cs:=by
 intro m
 induction m with
 | zero=>intro t h;simp[HB] at h
 | succ m Z=>
   intro t g fuel cs x h;simp only[HB] at g;split at g
   . rename_i p;obtain ⟨b,rfl,rfl⟩:=DataW.trod_bool p h;exact .one (.bool b)
   . rename_i k p;obtain ⟨n,rfl,rfl,_⟩:=DataW.trod_int p h;exact .one (.int k n)
   . rename_i p;obtain ⟨s,rfl,rfl,_⟩:=DataW.trod_string p h;have:=PR.str (F:=F) (w:=w) s.data.toList;exact .one (by simpa using this)
   . rename_i e p;simp only[BA,BM] at g;obtain ⟨hk,W⟩:=g;rcases DataW.trod_slice p h with ⟨rfl,rfl⟩ | ⟨a,len,cap,elems,rest,n,rfl,rfl,rfl,hb,Q,hc,u,Ds,_,_⟩
     . exact .one (.sl0 none 0)
     . refine .one ?_;simp only[Ai4];have V:∀(i:Nat) y,elems[i]?=some y->∃o,w.cells? 0 (a.add (i*P.cellsOf e)) (P.cellsOf e)=some o/\PRl F w (FJ y.1) o:=by
         intro i y r;have hi:i<len:=by rw[<-u];exact (Bn.1 r).1
         have:=Ds i hi;rw[r] at this;obtain ⟨o,T,h2⟩:=Option.bind_eq_some_iff.1 this;exact ⟨o,T,Z e W _ _ _ h2⟩
       have OZ:∀(i:Nat) z,(elems.map λ x=>FJ x.1)[i]?=some z->∃y,elems[i]?=some y/\z=FJ y.1:=by
         intro i z l;rw[BC] at l;cases r:elems[i]? with
         | none=>rw[r] at l;cases l
         | some y=>rw[r] at l;cases l;exact ⟨y,rfl,rfl⟩
       by_cases h0:len=0
       . have:elems=[]:=BZ (u.trans h0);subst this;subst h0;exact .sl0 (some a) cap
       . have S:∃y,elems[0]?=some y:=⟨_,Bp AQ⟩;obtain ⟨y,r⟩:=S;obtain ⟨o,T,_⟩:=V 0 y r;obtain ⟨a1,Adt⟩:=Zy T;have I:=Adt 0 hk;rw[Bp AQ] at I;obtain ⟨c,te,fr,N,Bm5,_⟩:=Aqt I;obtain ⟨b,off,spot⟩:=a;simp[Addr.add] at N Bm5;subst Bm5;have D5:∀(i:Nat) z (j:Nat) q,(elems.map λ x=>FJ x.1)[i]?=some z->z[j]?=some q->∃v,c[off+i*P.cellsOf e+j]?=some v/\PR F w q v:=by
           intro i z j q l E;obtain ⟨y,r,rfl⟩:=OZ i z l;obtain ⟨R,U,K⟩:=V i y r;obtain ⟨Bzs,Bp8⟩:=Zy U;have hj:j<P.cellsOf e:=by
             have:=(Bn.1 E).1;rw[K.1,Bzs] at this;exact this
           have h5:=Bp8 j hj;rw[Bp AQ] at h5;obtain ⟨c2,a2,a0,Tv,_,h6⟩:=Aqt h5;simp only[Addr.add_lit] at Tv h6;rw[N] at Tv;cases Tv;refine ⟨_,h6,?_⟩;have:=K.2 j q E;rwa[Bu,Bp AQ] at this
         have hlen:(elems.map λ x=>FJ x.1).length=len:=by simp[u]
         have:=PR.sl (F:=F) (w:=w) (elems.map λ x=>FJ x.1) b off cap (P.cellsOf e) c te fr (hF b (Ce.1 N).1) N AQ
           (λ i z l=>by
             obtain ⟨y,r,rfl⟩:=OZ i z l;obtain ⟨R,U,K⟩:=V i y r;rw[K.1,(Zy U).1])
           (λ i z j q l E=>by obtain ⟨v,Y,_⟩:=D5 i z j q l E;exact (Ce.1 Y).1)
           (λ i z j q l E=>by
             obtain ⟨v,Y,hp⟩:=D5 i z j q l E;rw[Bs,Y];exact hp)
         rwa[hlen] at this
   . rename_i fs p;simp only[BA,BM] at g;obtain ⟨xs,n,rfl,rfl,Q,B,Ds⟩:=DataW.trod_struct p h;have:=XZ (F:=F) (cs:=cs) (λ t g cs x hx=>Z t g n cs x hx) fs.toList xs 0 _ (by simpa using B) g.1 Q g.2 (λ i f hf=>Ds i f (by simpa using hf))
     simpa [FJ] using this
   . rename_i k e p;simp only[BA,BM] at g;obtain ⟨xs,n,rfl,rfl,Q,B,Ds⟩:=DataW.trod_array p h;have:=q0 (F:=F) (cs:=cs) (λ cs x hx=>Z e g.2 n cs x hx) xs 0 (by rw[Q,B,B4,g.1]) (λ i hi=>by rw[B4];exact Ds i AQ)
     simpa [FJ] using this
   . cases g
end
end Go.Am
namespace Go.Am
open Go Go.ChangeShapes Go.RowKit
section
variable {H:Type} {enc:TypeId×Value->H} {P:AK} {w:AI} {held:Bool}
theorem Bnx{sp:Nat->Bool}:∀(m:Nat) (t:AG),HB P m t=true->∀(fuel:Nat) (cs:At) (x:DataW H×List MemPlace),
   DataW.trod enc P w 0 (λ _=>true) held fuel t cs=some x->(∀p∈x.2,sp p.block=true)->DataW.trod enc P w 0 sp held fuel t cs=some x:=by
 intro m
 induction m with
 | zero=>intro t h;simp[HB] at h
 | succ m N=>
   intro t r fuel cs x h QZ;cases fuel with
   | zero=>simp[DataW.trod] at h
   | succ n=>
   simp only[HB] at r;split at r
   . rename_i g;obtain ⟨b,rfl,rfl⟩:=DataW.trod_bool g h;simp[DataW.trod,g]
   . rename_i k g;obtain ⟨j,rfl,rfl,Y⟩:=DataW.trod_int g h;simp[DataW.trod,g,Y]
   . rename_i g;obtain ⟨s,rfl,rfl,v⟩:=DataW.trod_string g h;simp[DataW.trod,g,v]
   . rename_i e g;simp only[BA,BM] at r;obtain ⟨V,K⟩:=r;unfold DataW.trod at h ⊢;rw[g] at h ⊢;split at h;all_goals first | (simp_all;done) | skip
     rename_i e1 a len cap u;simp only[Bo,TypeDesc.slice.injEq] at u;subst u;simp only at h ⊢;split at h
     case isFalse=>cases h
     rename_i hb;rw[if_pos hb];simp only[Option.bind_eq_some_iff,Ct,Cf] at h ⊢;obtain ⟨elems,E,rest,l,rfl⟩:=h;have I:∀y∈elems++rest,∀p∈y.2,sp p.block=true:=λ y o p z=>QZ p (by
       simp only[BD,List.mem_flatMap];exact .inr ⟨y,by simpa using o,z⟩)
     have step:∀(i:Nat) (y:DataW H×List MemPlace),y∈elems++rest->(w.cells? 0 (a.add (i*P.cellsOf e)) (P.cellsOf e)).bind (DataW.trod enc P w 0 (λ _=>true) held n e)=some y->
         (w.cells? 0 (a.add (i*P.cellsOf e)) (P.cellsOf e)).bind (DataW.trod enc P w 0 sp held n e)=some y:=by
       intro i y o q;obtain ⟨B,h2,S⟩:=Option.bind_eq_some_iff.1 q;exact Option.bind_eq_some_iff.2 ⟨B,h2,N e K _ _ _ S (I y o)⟩
     refine ⟨elems,mapM_carry E (λ i y _ o q=>step i y (by simp[o]) q),rest,?_,rfl⟩;by_cases T:cap - len=0
     . rw[T] at l ⊢;split
       . exact l
       . simpa using l
     . have W:rest.length=cap - len:=by simpa using mapM_some_length l
       have Aol:sp a.block=true:=QZ (.cell a.block a.off) (by
         simp only[BD];refine .inl (MemPlace.mem_row.2 ⟨0,?_,AT⟩);exact Nat.mul_pos AQ V)
       rw[if_pos Aol];exact mapM_carry l (λ j y _ o q=>step (len+j) y (by simp[o]) q)
   . rename_i fs g;simp only[BA,BM] at r;unfold DataW.trod at h ⊢;rw[g] at h ⊢;split at h;all_goals first | (simp_all;done) | skip
     rename_i R u;simp only[Bo,TypeDesc.struct.injEq] at u;subst u;(try simp only at h);split at h
     case isFalse=>cases h
     rename_i v;rw[if_pos v];simp only[Ct] at h ⊢;obtain ⟨Q,hx,rfl⟩:=h;refine ⟨Q,mapM_carry hx (λ f y U o q=>N f.type (BB.1 r.2 f U) _ _ _ q λ p z=>QZ p ?_),rfl⟩;simp only[List.mem_flatMap];exact ⟨y,o,z⟩
   . rename_i k e g;simp only[BA,BM] at r;unfold DataW.trod at h ⊢;rw[g] at h ⊢;split at h;all_goals first | (simp_all;done) | skip
     rename_i k' Z u;simp only[Bo,TypeDesc.array.injEq] at u;obtain ⟨rfl,rfl⟩:=u;(try simp only at h);split at h
     case isFalse=>cases h
     rename_i v;rw[if_pos v];simp only[Ct] at h ⊢;obtain ⟨Q,hx,rfl⟩:=h;refine ⟨Q,mapM_carry hx (λ i y _ o q=>N _ r.2 _ _ _ q λ p z=>QZ p ?_),rfl⟩;simp only[List.mem_flatMap];exact ⟨y,o,z⟩
   . cases r
end
def Bny(P:AK)(t:AG):Bool:=HB P 30 t&&match P.underlying t with
 | some (.struct _)=>false
 | some (.array _ _)=>false
 | _=>true
section
variable {H:Type} {enc:TypeId×Value->H} {P:AK} {W:AI}
theorem Bbn{t:AG}{v:AJ}{d:DataW H}{m:List MemPlace}{sp:Nat->Bool}{M:Nat->Mb}{s:Nat->Option Sg}(e:Bny P t=true){j:Nat}(R7:Value.okWide P W .any j t v)
   (h:DataW.Trod enc P W 0 sp true t v d m):DR (λ b=>b<W.heap.size) W M s (Auc d) v:=by
 unfold Bny at e;simp only[BA] at e;obtain ⟨g,i⟩:=e;obtain ⟨fuel,k⟩:=h;have a:=Blu (F:=λ b=>b<W.heap.size) (λ _ h=>h) 30 t g _ _ _ k;have U0:v.cells=#[v]:=by
   cases v with
   | agg cs=>
     exfalso;unfold Value.okWide Cell.okWide Cell.ok at R7;cases f:P.underlying t with
     | none=>rw[f] at R7;simp at R7
     | some u=>rw[f] at R7 i;cases u<;>simp[HB,f] at R7 i g
   | _=>rfl
 rw[U0] at a;have l:(FJ d).length=1:=a.1;obtain ⟨x,hx⟩:=CG.1 l;unfold Auc;simp only[hx,BS];have:=a.2 0 x (by simp[hx]);exact .p this
theorem Aod{W W':AI}(e:W'.os=W.os)(Aaz:W'.output=W.output)(h:∀b,b<W.heap.size->W'.heap[b]?=W.heap[b]?)(may:MemPlace->Prop):W.keptBut W' may:=by
 refine ⟨e,Aaz,λ i f=>?_⟩;rw[h i f];split
 . rename_i a h2;cases a.symm.trans h2;exact ⟨rfl,rfl,rfl,λ _ _=>rfl⟩
 . rename_i a h2;cases a.symm.trans h2;exact .inr ⟨rfl,rfl⟩
 . rfl
end
end Go.Am
namespace Go.Am
open Go
def HX(e h h':Hp):Prop:=∀id,get h' id=match get h id with | some o=>some o | none=>get e id
theorem Rs.Yt{α:Type}{p:Prop}{k:α->Prop}:∀{r:Rs α},p->r.all k->(r.and p).all k
 | .fail,_,h=>h.elim
 | .ret q a,f,h=>⟨⟨f,h.1⟩,h.2⟩
 | .split b x y,f,h=>⟨λ e=>Rs.Yt f (h.1 e),λ e=>Rs.Yt f (h.2 e)⟩
theorem Rs.DS{α β:Type}{f}{k:β->Prop}:∀{r:Rs α},r.all (λ a=>(f a).all k)->(r.bind f).all k
 | .fail,h=>h.elim
 | .ret p a,h=>Rs.Yt h.1 h.2
 | .split b x y,h=>⟨λ e=>Rs.DS (h.1 e),λ e=>Rs.DS (h.2 e)⟩
section
variable {P:AK} {e h h':Hp}
theorem HX.sm(hx:HX e h h'){id:Nat}{o:AO}(a:get h id=some o):get h' id=some o:=by rw[hx,a]
theorem HX.nn(hx:HX e h h'){id:Nat}(b:get h id=none)(a:get e id=none):get h' id=none:=by rw[hx,b];exact a
theorem HX.sg(hx:HX e h h'){id:Nat}{s:Sg}(a:sg h id=some s):sg h' id=some s:=by
 unfold Go.Am.sg at*;cases b:get h id with
 | none=>rw[b] at a;cases a
 | some o=>rw[b] at a;rw[hx.sm b];exact a
theorem HX.cur(hx:HX e h h'){id N:Nat}(a:Au3 h id N):Au3 h' id N:=by
 unfold Au3 at*;cases b:Go.Am.sg h id with
 | none=>rw[b] at a;exact a.elim
 | some s=>rw[b] at a;rw[hx.sg b];exact a
theorem HX.Dq(hx:HX e h h')(id:Nat)(o:AO):HX e (Dq h id o) (Dq h' id o):=by
 intro j;rw[DJ,DJ];by_cases a:j=id
 . rw[if_pos a,if_pos a]
 . rw[if_neg a,if_neg a];exact hx j
theorem HX.cons(hx:HX e h h')(id:Nat)(o:AO):HX e ((id,o)::h) ((id,o)::h'):=by
 intro j;rw[Dk,Dk];by_cases a:id=j
 . rw[if_pos a,if_pos a]
 . rw[if_neg a,if_neg a];exact hx j
theorem HX.froze(hx:HX e h h'){id:Nat}{o:AO}(a:get h id=some o):HX e (froze h id) (froze h' id):=by
 unfold Go.Am.froze;rw[a,hx.sm a];cases o<;>first | exact hx.Dq _ _ | exact hx
theorem HX.refl(h:Hp):HX [] h h:=by
 intro id;cases get h id<;>rfl
theorem HX.one{q:Nat}{o:AO}(b:get h q=none):HX [(q,o)] h ((q,o)::h):=by
 intro id;simp only[Dk];by_cases a:q=id
 . subst a;rw[b];simp
 . rw[if_neg a,if_neg a];cases get h id<;>rfl
theorem Bdm(hx:HX e h h'){t:AG}{d:D}{k:D->Prop}(a:(Tr P h t d).all k):(Tr P h' t d).all k:=by
 unfold Tr at*;split at a
 . split at a
   . rename_i h2;simp only[hx.sm h2];exact a
   . exact a.elim
 . exact a
 . split at a
   . rename_i h2;simp only[hx.sm h2];exact a
   . rename_i h2;simp only[hx.sm h2];exact a
   . rename_i h2;simp only[hx.sm h2];exact a
   . exact a.elim
 . split at a
   . rename_i h2;simp only[hx.sm h2];exact a
   . exact a.elim
 . exact a.elim
theorem Agj(hx:HX e h h'){t:AG}{d:D}{f:Nat}{k:D->Prop}(a:(Kn P t d f h).all k):(Kn P t d f h').all k:=by
 unfold Kn at*;split at a
 . split at a
   . split at a
     . split at a
       . exact a
       . exact a
       . exact ⟨⟨a.1.1,hx.cur a.1.2⟩,a.2⟩
       . exact a.elim
     . exact a.elim
   . exact a.elim
 . exact a.elim
theorem Aga(hx:HX e h h'){t:AG}{d i:D}{k:D->Prop}(a:(HT P t d i h).all k):(HT P t d i h').all k:=by
 unfold HT at*;split at a
 . split at a
   . split at a
     . exact a
     . exact a
     . split at a
       . rename_i h2;simp only[hx.sg h2];exact a
       . exact a.elim
     . exact a
     . exact a.elim
   . exact a.elim
 . exact a
 . exact a.elim
theorem Ava(hx:HX e h h'){t:AG}{d:D}{k:D->Prop}(a:(Asu P h t d).all k):(Asu P h' t d).all k:=by
 unfold Asu at*;split at a
 . split at a
   . exact a
   . exact a
   . exact a
   . exact ⟨hx.cur a.1,a.2⟩
   . exact a
   . exact a
   . exact a
   . exact a.elim
 . exact a.elim
theorem Aws{env:Ar}{n:Nat}(hx:HX e h h'){t:AG}{x:D}{f b g:Option Operand}{k:D->Prop}(a:(LX P ⟨env,h,n⟩ t x f b g).all k):(LX P ⟨env,h',n⟩ t x f b g).all k:=by
 unfold LX at*;split at a
 . exact a
 . split at a
   . split at a
     . exact a
     . split at a
       . rename_i h2;simp only[hx.sg h2];exact a
       . exact a.elim
     . exact a.elim
   . exact a.elim
 . exact a.elim
theorem Ast(hx:HX e h h'){t:AG}{x i:D}{a:Bool}{k:D->Prop}(b:(XD P h t x i a).all k):(XD P h' t x i a).all k:=False.elim b
theorem Ax6(hx:HX e h h'){t:AG}{m i v:D}{k:Hp->Prop}(b:(Wd P h t m i v).all k):(Wd P h' t m i v).all (λ y=>∃a,HX e a y/\k a):=False.elim b
theorem Auy{env:Ar}{n:Nat}(hx:HX e h h'){b:Op}{k:D->Prop}(a:(NQ P ⟨env,h,n⟩ b).all k):(NQ P ⟨env,h',n⟩ b).all k:=by
 unfold NQ at*;cases b<;>simp only at a ⊢<;>first
   | exact a
   | exact Bdm hx a
   | exact Aws hx a
   | exact Agj hx a
   | exact Aga hx a
   | exact Ast hx a
   | skip
 . have g:∀x,ev ⟨env,h',n⟩ x=ev ⟨env,h,n⟩ x:=λ _=>rfl;simp only[g];split at a
   . rename_i f;exact a
   . rename_i f;exact a
   . rename_i f;exact ⟨hx.cur a.1,a.2⟩
   . exact a.elim
 . rename_i fn _ _;cases fn<;>first
     | exact a
     | exact a.elim
 . rename_i i;cases i<;>first
     | exact a
     | exact a.elim
theorem Iz(hx:HX e h h'){d:D}{k:D×Hp->Prop}(a:(Aff h d).all k):(Aff h' d).all (λ y=>∃b,HX e b y.2/\k (y.1,b)):=by
 unfold Aff at*;split at a
 . split at a
   . rename_i b;simp only[hx.sm b];exact ⟨a.1,_,hx.froze b,a.2⟩
   . rename_i b;simp only[hx.sm b];exact ⟨a.1,_,hx,a.2⟩
   . exact a.elim
 . split at a
   . rename_i b;simp only[hx.sm b];exact ⟨a.1,_,hx.Dq _ _,a.2⟩
   . exact a.elim
 . exact ⟨a.1,_,hx,a.2⟩
 . exact ⟨a.1,_,hx,a.2⟩
mutual
theorem Bi3:∀{d:D} {h h':Hp} (_:HX e h h') {k:D×Hp->Prop} (_:(Er h d).all k),(Er h' d).all (λ y=>∃h1,HX e h1 y.2/\k (y.1,h1))
  | .agg cs,h,h',hx,k,hh=>by
    simp only[Er] at*;exact Rs.DS (Rs.Dh (λ y hy=>by obtain ⟨h1,MR,h2⟩:=hy;exact ⟨h2.1,h1,MR,h2.2⟩) (UN hx (Rs.all_bind hh)))
  | .Em cs,h,h',hx,k,hh=>by
    simp only[Er] at*;exact Rs.DS (Rs.Dh (λ y hy=>by obtain ⟨h1,MR,h2⟩:=hy;exact ⟨h2.1,h1,MR,h2.2⟩) (UN hx (Rs.all_bind hh)))
  | .p _,h,h',hx,k,hh=>by simp only[Er] at*;exact Iz hx hh
  | .cl _,h,h',hx,k,hh=>by simp only[Er] at*;exact Iz hx hh
  | .cz _,h,h',hx,k,hh=>by simp only[Er] at*;exact Iz hx hh
  | .ref _ _ _ _,h,h',hx,k,hh=>by simp only[Er] at*;exact Iz hx hh
  | .ptr _ _,h,h',hx,k,hh=>by simp only[Er] at*;exact Iz hx hh
  | .pe _,h,h',hx,k,hh=>by simp only[Er] at*;exact Iz hx hh
  | .ea _ _ _ _,h,h',hx,k,hh=>by simp only[Er] at*;exact Iz hx hh
  | .fn _ _,h,h',hx,k,hh=>by simp only[Er] at*;exact Iz hx hh
  | .np,h,h',hx,k,hh=>by simp only[Er] at*;exact Iz hx hh
  | .mv _,h,h',hx,k,hh=>by simp only[Er] at*;exact Iz hx hh
  | .E8 _ _,h,h',hx,k,hh=>by simp only[Er] at*;exact Iz hx hh
  | .Sn _ _ _,h,h',hx,k,hh=>by simp only[Er] at*;exact Iz hx hh
  | .nr _ _ _ _,h,h',hx,k,hh=>by simp only[Er] at*;exact Iz hx hh
  | .WX,h,h',hx,k,hh=>by simp only[Er] at*;exact Iz hx hh
  | .bad,h,h',hx,k,hh=>by simp only[Er] at*;exact Iz hx hh
theorem UN:∀{ds:Ah} {h h':Hp} (_:HX e h h') {k:Ah×Hp->Prop} (_:(JS h ds).all k),(JS h' ds).all (λ y=>∃h1,HX e h1 y.2/\k (y.1,h1))
  | [],h,h',hx,k,hh=>by simp only[JS] at*;exact ⟨hh.1,_,hx,hh.2⟩
  | d::r,h,h',hx,k,hh=>by
    simp only[JS] at*;refine Rs.DS (Rs.Dh (λ y hy=>?_) (Bi3 hx (Rs.all_bind hh)));obtain ⟨h1,MR,h2⟩:=hy;exact Rs.DS (Rs.Dh (λ z hz=>by obtain ⟨h3,hx3,h4⟩:=hz;exact ⟨h4.1,h3,hx3,h4.2⟩) (UN MR (Rs.all_bind h2)))
end
theorem Bjk(hx:HX e h h'){d:D}{k:Pd×Hp->Prop}(a:(Ag5 h d).all k):(Ag5 h' d).all (λ y=>∃b,HX e b y.2/\k (y.1,b)):=by
 unfold Ag5 at*;split at a
 . exact ⟨a.1,_,hx,a.2⟩
 . exact ⟨a.1,_,hx,a.2⟩
 . exact ⟨a.1,_,hx,a.2⟩
 . split at a
   . rename_i b;simp only[hx.sm b];exact ⟨a.1,_,hx.froze b,a.2⟩
   . rename_i b;simp only[hx.sm b];exact ⟨a.1,_,hx,a.2⟩
   . exact a.elim
 . split at a
   . rename_i b;simp only[hx.sm b];exact ⟨a.1,_,hx.Dq _ _,a.2⟩
   . exact a.elim
 . exact a.elim
theorem Acz:∀{ds:Ah} {h h':Hp} (_:HX e h h') {k:Av×Hp->Prop} (_:(MH h ds).all k),(MH h' ds).all (λ y=>∃b,HX e b y.2/\k (y.1,b))
 | [],h,h',hx,k,a=>by simp only[MH] at*;exact ⟨a.1,_,hx,a.2⟩
 | d::r,h,h',hx,k,a=>by
   simp only[MH] at*;refine Rs.DS (Rs.Dh (λ y j=>?_) (Bjk hx (Rs.all_bind a)));obtain ⟨b,MR,h2⟩:=j;exact Rs.DS (Rs.Dh (λ z l=>by obtain ⟨i,f,g⟩:=l;exact ⟨g.1,i,f,g.2⟩) (Acz MR (Rs.all_bind h2)))
theorem Bje(hx:HX e h h'){d:D}{k:Ae->Prop}(a:(Ag2 h d).all k):(Ag2 h' d).all k:=by
 unfold Ag2 at*;split at a
 . exact a
 . exact a
 . exact a
 . split at a
   . rename_i b;simp only[hx.sm b];exact a
   . rename_i b;simp only[hx.sm b];exact a
   . exact a.elim
 . exact a.elim
theorem Bi7(hx:HX e h h'){q:Nat}(p:get e q=none){t t2:AG}{s x:D}{k:D×Hp->Prop}(m:(VK P h q t t2 s x).all k):(VK P h' q t t2 s x).all (λ y=>∃b,HX e b y.2/\k (y.1,b)):=by
 unfold VK at*;split at m
 case h_2=>exact m.elim
 split at m
 case h_2=>exact m.elim
 refine Rs.DS (Rs.Dh (λ H a=>?_) (Bje hx (Rs.all_bind m)));split at a
 . obtain ⟨⟨f,g,i,j,l,o⟩,n⟩:=a;exact ⟨⟨f,g,i,j,hx.nn l p,o⟩,_,hx.cons _ _,n⟩
 . refine WIf.mono a (λ a=>⟨a.1,_,hx,a.2⟩) λ a=>?_;obtain ⟨⟨f,g,i,j,l,o⟩,n⟩:=a;exact ⟨⟨f,g,i,j,hx.nn l p,o⟩,_,hx.cons _ _,n⟩
 . obtain ⟨E,a⟩:=VX a;refine Ah9 E ?_;split at a
   . rename_i b;simp only[hx.sm b];exact ⟨a.1,_,hx.Dq _ _,a.2⟩
   . exact a.elim
 . split at a
   . rename_i b;obtain ⟨⟨f,g,i,j,⟨r,u,v,w,z,B⟩,l⟩,n⟩:=a;simp only[hx.sm b];exact ⟨⟨f,g,i,j,⟨r,u,v,w,z,hx.nn B p⟩,l⟩,_,(hx.Dq _ _).cons _ _,n⟩
   . exact a.elim
 . exact a.elim
theorem Bi9(hx:HX e h h'){t t2:AG}{id N:Nat}{x:D}{k:D×Hp->Prop}(a:(VL P h t t2 id N x).all k):(VL P h' t t2 id N x).all (λ y=>∃g,HX e g y.2/\k (y.1,g)):=by
 unfold VL at*;split at a
 case h_2=>exact a.elim
 split at a
 case h_2=>exact a.elim
 rename_i b;split at a
 case h_2=>exact a.elim
 rename_i f i;simp only[hx.sm b,hx.sm f,hx.sm i, *];exact ⟨a.1,_,(hx.Dq _ _).Dq _ _,a.2⟩
theorem Bl3(hx:HX e h h'){q:Nat}(f:get e q=none){t t2:AG}{s x:D}{k:D×Hp->Prop}(b:(Afh P h q t t2 s x).all k):(Afh P h' q t t2 s x).all (λ y=>∃a,HX e a y.2/\k (y.1,a)):=by
 cases s<;>simp only[Afh] at*<;>first | exact Bi9 hx b | exact Bi7 hx f b
theorem Bhn(hx:HX e h h'){t:AG}{s x:D}{k:D×Hp->Prop}(b:(Aae P h t s x).all k):(Aae P h' t s x).all (λ y=>∃a,HX e a y.2/\k (y.1,a)):=False.elim b
theorem Aks(hx:HX e h h'){id i n:Nat}{v:D}{k:Hp->Prop}(a:(IQ h id i n v).all k):(IQ h' id i n v).all (λ y=>∃b,HX e b y/\k b):=by
 unfold IQ at*;split at a
 . split at a
   . rename_i b h2;simp only[hx.sm b,hx.sm h2];exact ⟨a.1,_,(hx.Dq _ _).Dq _ _,a.2⟩
   . exact a.elim
 . exact a.elim
theorem Awp(hx:HX e h h'){t:AG}{a v:D}{k:Hp->Prop}(b:(PG P h t a v).all k):(PG P h' t a v).all (λ y=>∃g,HX e g y/\k g):=by
 unfold PG at*;split at b
 case h_2=>exact b.elim
 split at b
 case h_2=>exact b.elim
 split at b
 . split at b
   . rename_i g;simp only[hx.sm g];exact ⟨b.1,_,hx.Dq _ _,b.2⟩
   . exact b.elim
 . refine Rs.DS (Rs.Dh (λ y f=>?_) (Acz hx (Rs.all_bind b)));obtain ⟨g,MR,f⟩:=f;split at f
   . rename_i h2;simp only[MR.sm h2];exact ⟨f.1,_,MR.Dq _ _,f.2⟩
   . exact f.elim
 . exact Rs.Yt (Rs.GH b).1 (Aks hx (Rs.GH b).2)
 . exact b.elim
end
end Go.Am
namespace Go.Am
open Go
section
variable {P:AK} {e h h':Hp}
theorem Bdk{env:Ar}{n:Nat}(hx:HX e h h'){q:Nat}(g:get e q=none){l:Op}{k:D×Hp->Prop}(a:(MN P ⟨env,h,n⟩ q l).all k):
   (MN P ⟨env,h',n⟩ q l).all (λ y=>∃f,HX e f y.2/\k (y.1,f)):=by
 have j:∀x,ev ⟨env,h',n⟩ x=ev ⟨env,h,n⟩ x:=λ _=>rfl;have m:ev ⟨env,h',n⟩=ev ⟨env,h,n⟩:=funext j;unfold MN at*;simp only[j] at*;split at a
 . split at a
   . split at a
     . exact ⟨hx.nn a.1 g,_,hx.cons _ _,a.2⟩
     . exact a.elim
   . exact a.elim
 . split at a
   . exact ⟨hx.nn a.1 g,_,hx.cons _ _,a.2⟩
   . exact a.elim
 . refine Rs.DS (Rs.Dh (λ y b=>?_) (Awp hx (Rs.all_bind a)));obtain ⟨f,MR,b⟩:=b;exact ⟨b.1,f,MR,b.2⟩
 . exact ⟨hx.nn a.1 g,_,hx.cons _ _,a.2⟩
 . refine Rs.DS (Rs.Dh (λ y b=>?_) (Ax6 hx (Rs.all_bind a)));obtain ⟨f,MR,b⟩:=b;exact ⟨b.1,f,MR,b.2⟩
 . split at a
   . split at a
     . split at a
       . split at a
         . exact a.elim
         rename_i i;rw[if_neg i];refine Rs.DS (Rs.Dh (λ y b=>?_) (Acz hx (Rs.all_bind a)));obtain ⟨f,MR,b⟩:=b;exact ⟨⟨b.1.1,b.1.2.1,MR.nn b.1.2.2 g⟩,_,MR.cons _ _,b.2⟩
       . exact a.elim
     . exact a.elim
   . exact a.elim
 . split at a
   . split at a
     . split at a
       . exact a.elim
       rename_i i;rw[if_neg i];refine Rs.DS (Rs.Dh (λ y b=>?_) (Rs.all_bind a));exact ⟨⟨b.1.1,hx.nn b.1.2.1 g,b.1.2.2⟩,_,hx.cons _ _,b.2⟩
     . exact a.elim
   . exact a.elim
 . exact a.elim
theorem Ru{env:Ar}{n:Nat}(hx:HX e h h'){q:Nat}(g:get e q=none){b:Op}{k:D×Hp->Prop}(a:(Rv P ⟨env,h,n⟩ q b).all k):
   (Rv P ⟨env,h',n⟩ q b).all (λ y=>∃f,HX e f y.2/\k (y.1,f)):=by
 have i:FT ⟨env,h',n⟩ b=FT ⟨env,h,n⟩ b:=rfl;unfold Rv at*;rw[i];split at a
 . rename_i t d f;unfold Ahx at*;split at a
   case h_2=>exact a.elim
   split at a
   case h_2=>exact a.elim
   exact ⟨hx.nn a.1 g,_,hx.cons _ _,a.2⟩
 . exact Bdk hx g a
theorem Aqx{env:Ar}{n:Nat}(hx:HX e h h'){q:Nat}(j:get e q=none){b:Builtin}{i:Array TypeId}{args:Ah}{k:D×Hp->Prop}(a:(Ie P ⟨env,h,n⟩ q b i args).all k):
   (Ie P ⟨env,h',n⟩ q b i args).all (λ y=>∃f,HX e f y.2/\k (y.1,f)):=by
 unfold Ie at*;split at a
 . split at a
   . refine Rs.DS (Rs.Dh (λ y g=>?_) (Ava hx (Rs.all_bind a)));exact ⟨g.1,_,hx,g.2⟩
   . exact a.elim
 . split at a
   . exact Bl3 hx j a
   . exact a.elim
 . split at a
   . exact Bhn hx a
   . exact a.elim
 . exact ⟨a.1,_,hx,a.2⟩
 . exact ⟨a.1,_,hx,a.2⟩
 . exact ⟨a.1,_,hx,a.2⟩
 . exact a.elim
theorem Bpj{env:Ar}{n:Nat}(hx:HX e h h'){o:Oper}(b:get e (o.dst.getD 0)=none){k:D×Hp->Prop}(a:(Pt P ⟨env,h,n⟩ o).all k):
   (Pt P ⟨env,h',n⟩ o).all (λ y=>∃f,HX e f y.2/\k (y.1,f)):=by
 have val:∀{i:Op},((NQ P ⟨env,h,n⟩ i).bind λ d=> .ret True (d,h)).all k->((NQ P ⟨env,h',n⟩ i).bind λ d=> .ret True (d,h')).all (λ y=>∃f,HX e f y.2/\k (y.1,f)):=λ j=>
   Rs.DS (Rs.Dh (λ d g=>⟨g.1,_,hx,g.2⟩) (Auy hx (Rs.all_bind j)))
 unfold Pt at*;split at a
 . split at a
   . exact Aqx hx b a
   . exact a.elim
 . rename_i f;exact Ru hx b a
 . exact Ru hx b a
 . exact Ru hx b a
 . exact Ru hx b a
 . exact Ru hx b a
 . exact Ru hx b a
 . exact Ru hx b a
 . exact val a
theorem Bhw{env:Ar}{n:Nat}(hx:HX e h h'){f:AM}{args:AD}{k:FuncId×Ah×Hp->Prop}(g:(KL ⟨env,h,n⟩ f args).all k):
   (KL ⟨env,h',n⟩ f args).all (λ y=>∃a,HX e a y.2.2/\k (y.1,y.2.1,a)):=by
 have i:∀x,ev ⟨env,h',n⟩ x=ev ⟨env,h,n⟩ x:=λ _=>rfl;have j:ev ⟨env,h',n⟩=ev ⟨env,h,n⟩:=funext i;unfold KL at*;rw[j];split at g
 . refine Rs.DS (Rs.Dh (λ y b=>?_) (UN hx (Rs.all_bind g)));obtain ⟨a,MR,b⟩:=b;exact ⟨b.1,a,MR,b.2⟩
 . exact g.elim
theorem Kr:∀(l T:Aq) (id:Nat),id∈T->id∈Ii T l
 | [],T,id,h=>h
 | i::r,T,id,h=>by
   simp only[Ii];split
   . exact Kr r T id h
   . exact Kr r _ id (CB _ h)
theorem Adp(hx:HX e h h'):∀(l:Aq),(∀id∈l,(get h id).isSome=true)->MQ h' l=MQ h l
 | [],_=>rfl
 | i::r,b=>by
   obtain ⟨o,a⟩:=Cj.1 (b i AT);simp only[MQ,a,hx.sm a,Adp hx r (λ id f=>b id (by simp[f]))]
theorem XW(hx:HX e h h')(b:∀id,get e id≠none->id<10000){id:Nat}(hid:base<=id):ghost h' id=ghost h id:=by
 have:get h' id=get h id:=by
   rw[hx];cases f:get h id with
   | some o=>rfl
   | none=>
     cases a:get e id with
     | none=>rfl
     | some o=>have:=b id (by rw[a];simp);unfold base at hid;omega
 simp only[ghost,this]
theorem Axp(hx:HX e h h')(a:∀id,get e id≠none->id<10000):Wo h'=Wo h:=by
 simp only[Wo,XW hx a (Bk base),XW hx a (Nat.le_add_right base 1),XW hx a (Nat.le_add_right base 2),XW hx a (Nat.le_add_right base 3)]
theorem Ajf(hx:HX e h h')(i:∀id,get e id≠none->id<10000)(ids:Aq)(b:∀id∈F3 h ids,(get h id).isSome=true):F3 h' ids=F3 h ids:=by
 unfold F3 at*;simp only at b ⊢;have f:MQ h' (Ii [] ids)=MQ h (Ii [] ids):=Adp hx _ λ id a=>b id (Kr _ _ _ (Kr _ _ _ (Kr _ _ _ a)));rw[f];have g:MQ h' (Ii (Ii [] ids) (MQ h (Ii [] ids)))=MQ h (Ii (Ii [] ids) (MQ h (Ii [] ids))):=Adp hx _ λ id a=>b id (Kr _ _ _ (Kr _ _ _ a));rw[g,Axp hx i]
theorem As1(hx:HX e h h')(ρ:Nat->Option Nat):∀(T:Aq) (k:Nat),(∀id∈T,(get h id).isSome=true)->sub h' ρ k T=sub h ρ k T
 | [],_,_=>rfl
 | i::r,k,b=>by
   obtain ⟨o,a⟩:=Cj.1 (b i AT);simp only[sub,a,hx.sm a,As1 hx ρ r (k+1) (λ id f=>b id (by simp[f]))]
theorem Aor(hx:HX e h h'){q:Nat}(b:∀j,get e (10000*(j+1)+q)=none):∀(l:Hp),fresh q h l->fresh q h' l
 | [],_=>trivial
 | (j,_)::r,a=>⟨a.1.imp id λ f=>hx.nn f (b j),Aor hx b r a.2⟩
theorem XC(hx:HX e h h')(T:Aq)(q:Nat):∀(l:Hp),HX e (merge T q h l) (merge T q h' l)
 | []=>hx
 | (j,o)::r=>by
   simp only[merge];split
   . exact (XC hx T q r).Dq _ _
   . exact XC hx T q r
theorem Bhy(hx:HX e h h'){f:AH}{ds:Ah}{q:Nat}(l:∀id,get e id≠none->id<10000)(t:∀j,get e (10000*(j+1)+q)=none){k:D->Hp->Prop}(n:LD P h f ds q k):
   LD P h' f ds q (λ d y=>∃a,HX e a y/\k d a):=by
 unfold LD at*;obtain ⟨a,h2,i⟩:=n;have g:∀id∈F3 h (Fe ds),(get h id).isSome=true:=λ id b=>BB.1 h2 id b;rw[Ajf hx l _ g];refine ⟨a,BB.2 λ id b=>?_,?_⟩
 . obtain ⟨o,s⟩:=Cj.1 (g id b);rw[hx.sm s];rfl
 . rw[As1 hx _ _ _ g];exact i.mono λ h2 r ⟨m,p⟩=>⟨Aor hx t h2 m,_,XC hx _ _ _,p⟩
theorem Rs.Ih{α:Type}{S:Prop}{k:α->Prop}:∀{r:Rs α},r.all k->r.OM S k
 | .fail,h=>h.elim
 | .ret p a,h=>h
 | .split b x y,h=>⟨λ e=>Rs.Ih (h.1 e),λ e=>Rs.Ih (h.2 e)⟩
theorem WE{f:AH}{ds:Ah}{q:Nat}{k k':D->Hp->Prop}(i:∀d y,k d y->k' d y)(a:LD P h f ds q k):LD P h f ds q k':=by
 unfold LD at*;exact ⟨a.1,a.2.1,a.2.2.mono λ h2 r ⟨g,b⟩=>⟨g,i _ _ b⟩⟩
theorem Bne{env:Ar}{n:Nat}(hx:HX e h h'){o:Oper}(k:∀id,get e id≠none->id<10000)(m:get e (o.dst.getD 0)=none){K:St->Prop}(a:YN P false o K ⟨env,h,n⟩):
   YN P false o (λ st=>∃g,HX e g st.hp/\K {st with hp:=g}) ⟨env,h',n⟩:=by
 have PL:∀j,get e (10000*(j+1)+o.dst.getD 0)=none:=λ j=>by
   cases p:get e (10000*(j+1)+o.dst.getD 0) with
   | none=>rfl
   | some x=>have:=k _ (by rw[p];simp);omega
 have key:∀(y h2:Hp) (d:D),K ((⟨env,h2,n⟩:St).put o.dst d)->K {(⟨env,y,n⟩:St).put o.dst d with hp:=h2}:=by
   intro y h2 d b;generalize o.dst=dst at b ⊢;cases dst with
   | none=>exact b
   | some t=>
     simp only[St.put] at b ⊢;split
     . rename_i i;rw[if_pos i] at b;exact b
     . rename_i i;rw[if_neg i] at b;exact b
 have Bm7:∀(st:St) (t:Option Nat) (d:D),(st.put t d).hp=st.hp:=by
   intro st t d;cases t with
   | none=>rfl
   | some t=>simp only[St.put];split<;>rfl
 unfold YN at*;split at a
 . rename_i f args r;rcases Rs.Jr a with a | a
   case inr=>exact (BU a.1).elim
   simp only[RH] at a ⊢;refine Rs.Ih (Rs.Dh (λ x Kl=>?_) (Bhw hx a));obtain ⟨g,MR,l⟩:=Kl;have:=Bhy MR k PL l;refine WE (λ d y q=>?_) this;obtain ⟨h2,Kl,b⟩:=q;exact ⟨h2,by rw[Bm7];exact Kl,key _ _ _ b⟩
 . rcases Rs.Jr a with a | a
   case inr=>exact (BU a.1).elim
   refine Rs.Ih (Rs.Dh (λ x Kl=>?_) (Bpj hx m a));obtain ⟨g,MR,b⟩:=Kl;exact ⟨g,by rw[Bm7];exact MR,key _ _ _ b⟩
end
end Go.Am
namespace Go.Am
open Go
def IH(h:Hp)(d:D):Prop:=∀id∈d.ids,get h id≠none
def JL(h:Hp)(ds:Ah):Prop:=∀id∈Fe ds,get h id≠none
def Mg(h:Hp):Prop:=∀id o,get h id=some o->∀i∈o.ids,get h i≠none
def Sb(h h':Hp):Prop:=∀id,get h id≠none->get h' id≠none
def Ij(q:Option Nat)(h h':Hp):Prop:=∀id,get h' id≠none->get h id≠none∨some id=q∨10000<=id
section
variable {P:AK} {e h h':Hp} {q:Option Nat}
theorem HX.eq(hx:HX e h h'){id:Nat}(b:get h id≠none):get h' id=get h id:=by
 cases a:get h id with
 | none=>exact (b a).elim
 | some o=>exact hx.sm a
theorem HX.nn'(hx:HX e h h'){id:Nat}(a:get h' id=none):get h id=none:=by
 cases b:get h id with
 | none=>rfl
 | some o=>rw[hx.sm b] at a;cases a
theorem Ij.refl(q:Option Nat)(h:Hp):Ij q h h:=λ _ a=> .inl a
theorem Ij.trans{a:Hp}(f:Ij q h h')(h2:Ij q h' a):Ij q h a:=λ id g=>by
 rcases h2 id g with b | b
 . exact f id b
 . exact .inr b
theorem Sb.refl(h:Hp):Sb h h:=λ _ a=>a
theorem Sb.trans{a:Hp}(b:Sb h h')(h2:Sb h' a):Sb h a:=λ id f=>h2 id (b id f)
theorem Ij.Dq{id:Nat}(f:get h id≠none)(o:AO):Ij q h (Dq h id o):=by
 intro j a;rw[DJ] at a;by_cases b:j=id
 . subst b;exact .inl f
 . rw[if_neg b] at a;exact .inl a
theorem Sb.Dq(h:Hp)(id:Nat)(o:AO):Sb h (Dq h id o):=by
 intro j b;rw[DJ];by_cases a:j=id
 . rw[if_pos a];simp
 . rw[if_neg a];exact b
theorem Ai1{h:Hp}{id:Nat}(j:Nat):get (froze h id) j=match get h j with
   | some (.arr t sz es)=>if j=id then some (.Om sz es) else some (.arr t sz es)
   | o=>o:=by
 unfold froze;split
 . rename_i t sz es b;rw[DJ];by_cases a:j=id
   . subst a;rw[if_pos rfl,b];simp
   . rw[if_neg a];cases get h j with
     | none=>rfl
     | some o=>cases o<;>simp[a]
 . rename_i b;cases f:get h j with
   | none=>rfl
   | some o=>cases o with
     | arr t sz es=>
       by_cases a:j=id
       . subst a;exact (b _ _ _ f).elim
       . simp[a]
     | _=>rfl
theorem Wq{h:Hp}{id j:Nat}:get (froze h id) j≠none↔get h j≠none:=by
 rw[Ai1];cases get h j with
 | none=>simp
 | some o=>cases o<;>simp<;>split<;>simp
theorem Mg.froze(p:Mg h)(id:Nat):Mg (froze h id):=by
 intro j o a i b;rw[Wq];rw[Ai1] at a;cases f:get h j with
 | none=>rw[f] at a;cases a
 | some r=>
   rw[f] at a;cases r with
   | arr t m n=>
     simp only at a;split at a<;>(cases a;simp[AO.ids] at b)
   | Om m n=>cases a;simp[AO.ids] at b
   | iter l pos=>cases a;simp[AO.ids] at b
   | Ew g cs=>cases a;simp[AO.ids] at b
   | Ik s=>cases a;simp[AO.ids] at b
   | mp l=>cases a;simp[AO.ids] at b
   | Fi t e m k rows hole=>cases a;simp[AO.ids] at b
   | YH t m n i c d=>cases a;exact p j _ f _ b
   | box cs u=>cases a;exact p j _ f i b
def HN(h h':Hp):Prop:=∀id,get h' id≠none↔get h id≠none
theorem HN.refl(h:Hp):HN h h:=λ _=>Iff.rfl
theorem HN.trans{a:Hp}(b:HN h h')(h2:HN h' a):HN h a:=λ id=>(h2 id).trans (b id)
theorem HN.Bjl(f:HN h h'){d:D}:IH h' d↔IH h d:=⟨λ b id a=>(f id).1 (b id a),λ b id a=>(f id).2 (b id a)⟩
theorem HN.Av5(f:HN h h'){d:Ah}:JL h' d↔JL h d:=⟨λ b id a=>(f id).1 (b id a),λ b id a=>(f id).2 (b id a)⟩
theorem Mg.Dq(g:Mg h){id:Nat}(m:get h id≠none){o:AO}(k:o.ids=[]):Mg (Dq h id o):=by
 intro j l a i b;rw[DJ] at a;by_cases f:j=id
 . rw[if_pos f] at a;cases a;rw[k] at b;cases b
 . rw[if_neg f] at a;exact Sb.Dq h id o i (g j l a i b)
theorem HN.Dq{id:Nat}(b:get h id≠none)(o:AO):HN h (Dq h id o):=by
 intro j;rw[DJ];by_cases a:j=id
 . subst a;rw[if_pos rfl];exact ⟨λ _=>b,λ _=>AT⟩
 . rw[if_neg a]
theorem Bdl(hx:HX e h h'){t:AG}{d:D}(a:IH h d):Tr P h' t d=Tr P h t d:=by
 unfold Tr;cases Dz P t with
 | none=>rfl
 | some b=>cases d with
   | ptr id off=>simp only[hx.eq (a id A3)]
   | ea id i c N=>simp only[hx.eq (a id A3)]
   | Sn id i n=>simp only[hx.eq (a id A3)]
   | _=>rfl
theorem Iy(hx:HX e h h')(b:Mg h){d:D}(g:IH h d){k:D×Hp->Prop}(a:(Aff h' d).all k):
   (Aff h d).all (λ y=>(∃Ho,HX e y.2 Ho/\k (y.1,Ho))/\IH h y.1/\Mg y.2/\HN h y.2):=by
 have f:∀x:Pd,IH h (.p x):=λ x id l=>by simp[D.ids] at l
 unfold Aff at*;split at a
 . rename_i id off len N;rw[hx.eq (g id A3)] at a;split at a
   . rename_i i;exact ⟨a.1,⟨_,hx.froze i,a.2⟩,f _,b.froze id,λ j=>Wq⟩
   . exact ⟨a.1,⟨_,hx,a.2⟩,f _,b,HN.refl _⟩
   . exact a.elim
 . rename_i id n;have hid:=g id A3;rw[hx.eq hid] at a;split at a
   . exact ⟨a.1,⟨_,hx.Dq _ _,a.2⟩,f _,b.Dq hid rfl,HN.Dq hid _⟩
   . exact a.elim
 . exact ⟨a.1,⟨_,hx,a.2⟩,f _,b,HN.refl _⟩
 . exact ⟨a.1,⟨_,hx,a.2⟩,g,b,HN.refl _⟩
theorem JL.cons{d:D}{r:Ah}:JL h (d::r)↔IH h d/\JL h r:=by
 unfold JL IH;simp only[Fe,BD];exact ⟨λ a=>⟨λ id b=>a id (.inl b),λ id b=>a id (.inr b)⟩,λ a id b=>b.elim (a.1 id) (a.2 id)⟩
theorem IH.le{h2:Hp}(f:Sb h h2){d:D}(a:IH h d):IH h2 d:=λ id b=>f id (a id b)
theorem JL.le{h2:Hp}(f:Sb h h2){d:Ah}(a:JL h d):JL h2 d:=λ id b=>f id (a id b)
mutual
theorem Bi2:∀{d:D} {h h':Hp} (_:HX e h h') (_:Mg h) (_:IH h d) {k:D×Hp->Prop} (_:(Er h' d).all k),
    (Er h d).all (λ y=>(∃Ho,HX e y.2 Ho/\k (y.1,Ho))/\IH h y.1/\Mg y.2/\HN h y.2)
  | .agg cs,h,h',hx,hn,hd,k,hh=>by
    simp only[Er] at*;refine Rs.DS (Rs.Dh (λ y hy=>?_) (UM hx hn (ds:=cs) hd (Rs.all_bind hh)));obtain ⟨⟨h1,MR,h2⟩,h3,h4⟩:=hy;exact ⟨h2.1,⟨h1,MR,h2.2⟩,h3,h4⟩
  | .Em cs,h,h',hx,hn,hd,k,hh=>by
    simp only[Er] at*;refine Rs.DS (Rs.Dh (λ y hy=>?_) (UM hx hn (ds:=cs) hd (Rs.all_bind hh)));obtain ⟨⟨h1,MR,h2⟩,h3,h4⟩:=hy;exact ⟨h2.1,⟨h1,MR,h2.2⟩,h3,h4⟩
  | .p _,h,h',hx,hn,hd,k,hh=>by simp only[Er] at*;exact Iy hx hn hd hh
  | .cl _,h,h',hx,hn,hd,k,hh=>by simp only[Er] at*;exact Iy hx hn hd hh
  | .cz _,h,h',hx,hn,hd,k,hh=>by simp only[Er] at*;exact Iy hx hn hd hh
  | .ref _ _ _ _,h,h',hx,hn,hd,k,hh=>by simp only[Er] at*;exact Iy hx hn hd hh
  | .ptr _ _,h,h',hx,hn,hd,k,hh=>by simp only[Er] at*;exact Iy hx hn hd hh
  | .pe _,h,h',hx,hn,hd,k,hh=>by simp only[Er] at*;exact Iy hx hn hd hh
  | .ea _ _ _ _,h,h',hx,hn,hd,k,hh=>by simp only[Er] at*;exact Iy hx hn hd hh
  | .fn _ _,h,h',hx,hn,hd,k,hh=>by simp only[Er] at*;exact Iy hx hn hd hh
  | .np,h,h',hx,hn,hd,k,hh=>by simp only[Er] at*;exact Iy hx hn hd hh
  | .mv _,h,h',hx,hn,hd,k,hh=>by simp only[Er] at*;exact Iy hx hn hd hh
  | .E8 _ _,h,h',hx,hn,hd,k,hh=>by simp only[Er] at*;exact Iy hx hn hd hh
  | .Sn _ _ _,h,h',hx,hn,hd,k,hh=>by simp only[Er] at*;exact Iy hx hn hd hh
  | .nr _ _ _ _,h,h',hx,hn,hd,k,hh=>by simp only[Er] at*;exact Iy hx hn hd hh
  | .WX,h,h',hx,hn,hd,k,hh=>by simp only[Er] at*;exact Iy hx hn hd hh
  | .bad,h,h',hx,hn,hd,k,hh=>by simp only[Er] at*;exact Iy hx hn hd hh
theorem UM:∀{ds:Ah} {h h':Hp} (_:HX e h h') (_:Mg h) (_:JL h ds) {k:Ah×Hp->Prop} (_:(JS h' ds).all k),
    (JS h ds).all (λ y=>(∃Ho,HX e y.2 Ho/\k (y.1,Ho))/\JL h y.1/\Mg y.2/\HN h y.2)
  | [],h,h',hx,hn,hd,k,hh=>by simp only[JS] at*;exact ⟨hh.1,⟨_,hx,hh.2⟩,hd,hn,HN.refl _⟩
  | d::r,h,h',hx,hn,hd,k,hh=>by
    simp only[JS] at*;obtain ⟨Sr,JT⟩:=JL.cons.1 hd;refine Rs.DS (Rs.Dh (λ y hy=>?_) (Bi2 hx hn Sr (Rs.all_bind hh)));obtain ⟨⟨h1,MR,h2⟩,VF,hn1,hk1⟩:=hy;refine Rs.DS (Rs.Dh (λ z hz=>?_) (UM MR hn1 (hk1.Av5.2 JT) (Rs.all_bind h2)));obtain ⟨⟨h3,hx3,h4⟩,hp2,hn2,Sp⟩:=hz;exact ⟨h4.1,⟨h3,hx3,h4.2⟩,JL.cons.2 ⟨VF,hk1.Av5.1 hp2⟩,hn2,hk1.trans Sp⟩
end
theorem Bjj(hx:HX e h h')(b:Mg h){d:D}(f:IH h d){k:Pd×Hp->Prop}(a:(Ag5 h' d).all k):
   (Ag5 h d).all (λ y=>(∃Ho,HX e y.2 Ho/\k (y.1,Ho))/\Mg y.2/\HN h y.2):=by
 unfold Ag5 at*;split at a
 . exact ⟨a.1,⟨_,hx,a.2⟩,b,HN.refl _⟩
 . exact ⟨a.1,⟨_,hx,a.2⟩,b,HN.refl _⟩
 . exact ⟨a.1,⟨_,hx,a.2⟩,b,HN.refl _⟩
 . rename_i id off len N;rw[hx.eq (f id A3)] at a;split at a
   . rename_i g;exact ⟨a.1,⟨_,hx.froze g,a.2⟩,b.froze id,λ j=>Wq⟩
   . exact ⟨a.1,⟨_,hx,a.2⟩,b,HN.refl _⟩
   . exact a.elim
 . rename_i id n;have hid:=f id A3;rw[hx.eq hid] at a;split at a
   . exact ⟨a.1,⟨_,hx.Dq _ _,a.2⟩,b.Dq hid rfl,HN.Dq hid _⟩
   . exact a.elim
 . exact a.elim
theorem Acy:∀{ds:Ah} {h h':Hp} (_:HX e h h') (_:Mg h) (_:JL h ds) {k:Av×Hp->Prop} (_:(MH h' ds).all k),
   (MH h ds).all (λ y=>(∃Ho,HX e y.2 Ho/\k (y.1,Ho))/\Mg y.2/\HN h y.2)
 | [],h,h',hx,f,m,k,b=>by simp only[MH] at*;exact ⟨b.1,⟨_,hx,b.2⟩,f,HN.refl _⟩
 | d::r,h,h',hx,f,m,k,b=>by
   simp only[MH] at*;obtain ⟨Sr,JT⟩:=JL.cons.1 m;refine Rs.DS (Rs.Dh (λ y o=>?_) (Bjj hx f Sr (Rs.all_bind b)));obtain ⟨⟨s,MR,h2⟩,g,a⟩:=o;refine Rs.DS (Rs.Dh (λ z p=>?_) (Acy MR g (a.Av5.2 JT) (Rs.all_bind h2)));obtain ⟨⟨n,j,l⟩,i,Sp⟩:=p;exact ⟨l.1,⟨n,j,l.2⟩,i,a.trans Sp⟩
theorem Bjd(hx:HX e h h'){d:D}(a:IH h d):Ag2 h' d=Ag2 h d:=by
 unfold Ag2;split
 . rfl
 . rfl
 . rfl
 . rename_i id off len N;rw[hx.eq (a id A3)]
 . rfl
def Beh(e h:Hp)(q:Option Nat)(k:D×Hp->Prop)(y:D×Hp):Prop:=(∃Ho,HX e y.2 Ho/\k (y.1,Ho))/\Ij q h y.2
theorem Bi6(hx:HX e h h'){q:Nat}{t t2:AG}{s x:D}(v:IH h s)(K:IH h x){k:D×Hp->Prop}(f:(VK P h' q t t2 s x).all k):(VK P h q t t2 s x).all (Beh e h (some q) k):=by
 unfold VK at*;split at f
 case h_2=>exact f.elim
 split at f
 case h_2=>exact f.elim
 rw[Bjd hx K] at f;refine Rs.DS (Rs.Dh (λ R a=>?_) (Rs.all_bind f));split at a
 . obtain ⟨⟨g,l,m,n,o,u⟩,r⟩:=a;refine ⟨⟨g,l,m,n,hx.nn' o,u⟩,⟨_,hx.cons _ _,r⟩,λ j b=>?_⟩;rw[Dk] at b;split at b
   . rename_i p;exact .inr (.inl (by rw[p]))
   . exact .inl b
 . refine WIf.mono a (λ a=>⟨a.1,⟨_,hx,a.2⟩,λ j b=> .inl b⟩) λ a=>?_;obtain ⟨⟨g,l,m,n,o,u⟩,r⟩:=a;refine ⟨⟨g,l,m,n,hx.nn' o,u⟩,⟨_,hx.cons _ _,r⟩,λ j b=>?_⟩;rw[Dk] at b;split at b
   . rename_i p;exact .inr (.inl (by rw[p]))
   . exact .inl b
 . rename_i id off len N;have hid:=v id A3;rw[hx.eq hid] at a;obtain ⟨I,a⟩:=VX a;refine Ah9 I ?_;split at a
   . exact ⟨a.1,⟨_,hx.Dq _ _,a.2⟩,Ij.Dq hid _⟩
   . exact a.elim
 . rename_i id i len Q;have hid:=v id A3;rw[hx.eq hid] at a;split at a
   . obtain ⟨⟨g,l,m,n,⟨w,y,z,B,E,H⟩,o⟩,r⟩:=a;refine ⟨⟨g,l,m,n,⟨w,y,z,B,E,hx.nn' H⟩,o⟩,⟨_,(hx.Dq _ _).cons _ _,r⟩,λ j b=>?_⟩;rw[Dk] at b;split at b
     . rename_i p;exact .inr (.inl (by rw[p]))
     . exact Ij.Dq hid _ j b
   . exact a.elim
 . exact a.elim
theorem Bi8(hx:HX e h h'){q:Nat}{t t2:AG}{id N:Nat}{x:D}(r:IH h (.E8 id N))(o:IH h x)(p:Mg h){k:D×Hp->Prop}(a:(VL P h' t t2 id N x).all k):(VL P h t t2 id N x).all (Beh e h (some q) k):=by
 unfold VL at*;split at a
 case h_2=>exact a.elim
 split at a
 case h_2=>exact a.elim
 rename_i s b;rw[hx.eq (o _ A3)] at b;have l:=p _ _ b _ (by simp only[AO.ids,D.ids];exact BG.2 rfl);split at a
 case h_2=>exact a.elim
 rename_i g n;rw[hx.eq l] at g;have m:=r id A3;rw[hx.eq m] at n;simp only[b,g,n, *];refine ⟨a.1,⟨_,(hx.Dq _ _).Dq _ _,a.2⟩,λ j f=> .inl ?_⟩;rw[DJ] at f;split at f
 . rename_i i;rw[i];exact l
 . rw[DJ] at f;split at f
   . rename_i i;rw[i];exact m
   . exact f
theorem Bl2(hx:HX e h h')(g:Mg h){q:Nat}{t t2:AG}{s x:D}(f:IH h s)(a:IH h x){k:D×Hp->Prop}(b:(Afh P h' q t t2 s x).all k):(Afh P h q t t2 s x).all (Beh e h (some q) k):=by
 cases s<;>simp only[Afh] at*<;>first | exact Bi8 hx f a g b | exact Bi6 hx f a b
theorem Bhm(hx:HX e h h'){q:Nat}{t:AG}{s x:D}(f:IH h s)(b:IH h x){k:D×Hp->Prop}(a:(Aae P h' t s x).all k):(Aae P h t s x).all (Beh e h (some q) k):=False.elim a
theorem Z9(a b:Ah):Fe (a++b)=Fe a++Fe b:=by
 induction a with
 | nil=>rfl
 | cons d r f=>simp[Fe,f]
theorem As3{d:D}{cs:Ah}(a:d.stored=some cs):Fe cs=d.ids:=by
 unfold D.stored at a;split at a
 . cases a;cases d<;>simp[D.cells,D.ids,Fe]
 . cases a
theorem Ax5(hx:HX e h h'){t:AG}{m i v:D}(b:IH h m){k:Hp->Prop}(a:(Wd P h' t m i v).all k):
   (Wd P h t m i v).all (λ y=>(∃Ho,HX e y Ho/\k Ho)/\Ij none h y):=False.elim a
theorem Akr(hx:HX e h h'){id i n:Nat}{v:D}(b:get h id≠none)(g:IH h v){k:Hp->Prop}(a:(IQ h' id i n v).all k):
   (IQ h id i n v).all (λ y=>(∃Ho,HX e y Ho/\k Ho)/\Ij none h y):=by
 unfold IQ at*;split at a
 . rename_i q off len N;have f:=g q A3;rw[hx.eq f,hx.eq b] at a;split at a
   . refine ⟨a.1,⟨_,(hx.Dq _ _).Dq _ _,a.2⟩,(Ij.Dq b _).trans (Ij.Dq (Sb.Dq _ _ _ _ f) _)⟩
   . exact a.elim
 . exact a.elim
theorem Awo(hx:HX e h h')(r:Mg h){t:AG}{a v:D}(m:IH h a)(p:IH h v){k:Hp->Prop}(b:(PG P h' t a v).all k):
   (PG P h t a v).all (λ y=>(∃Ho,HX e y Ho/\k Ho)/\Ij none h y):=by
 unfold PG at*;split at b
 case h_2=>exact b.elim
 split at b
 case h_2=>exact b.elim
 rename_i Ly;split at b
 . rename_i id off;have hid:=m id A3;rw[hx.eq hid] at b;split at b
   . exact ⟨b.1,⟨_,hx.Dq _ _,b.2⟩,Ij.Dq hid _⟩
   . exact b.elim
 . rename_i id i c N;have hid:=m id A3;refine Rs.DS (Rs.Dh (λ y f=>?_) (Acy hx r (λ j o=>p j (by rw[<-As3 Ly];exact o)) (Rs.all_bind b)));obtain ⟨⟨u,MR,f⟩,s,l⟩:=f;have Bsw:=(l id).2 hid;rw[MR.eq Bsw] at f;split at f
   . exact ⟨f.1,⟨_,MR.Dq _ _,f.2⟩,λ j o=>by
       rcases Ij.Dq (q:=none) Bsw _ j o with g | g | g
       . exact .inl ((l j).1 g)
       . cases g
       . exact .inr (.inr g)⟩
   . exact f.elim
 . rename_i id i n;have hid:=m id A3;exact Rs.Yt (Rs.GH b).1 (Akr hx hid p (Rs.GH b).2)
 . exact b.elim
end
end Go.Am
namespace Go.Am
open Go
def isQ(o:Op):Bool:=
 match o with
 | .call c=>match c.callee with
   | .value _=>true
   | .builtin .append | .builtin .copy=>true
   | _=>false
 | .store _ _ _=>true
 | .slice _ _ _ _ _=>true
 | .buildSlice _ _ _=>true
 | .load _ _=>true
 | .mapUpdate _ _ _ _=>true
 | .indexAddr _ _ _=>true
 | _=>false
section
variable {P:AK} {e h h':Hp}
theorem Md:∀(l T:Aq) (id:Nat),id∈Ii T l->id∈T∨id∈l
 | [],T,id,b=> .inl b
 | i::r,T,id,b=>by
   simp only[Ii] at b;split at b
   . rcases Md r T id b with a | a
     . exact .inl a
     . exact .inr (by simp[a])
   . rcases Md r _ id b with a | a
     . rcases BD.1 a with h2 | h2
       . exact .inl h2
       . simp only[BG] at h2;exact .inr (by simp[h2])
     . exact .inr (by simp[a])
theorem Wj(g:Mg h):∀(l:Aq) (id:Nat),id∈MQ h l->get h id≠none
 | [],id,b=>by simp[MQ] at b
 | i::r,id,b=>by
   simp only[MQ,BD] at b;rcases b with a | a
   . cases f:get h i with
     | none=>rw[f] at a;simp at a
     | some o=>rw[f] at a;exact g i o f id a
   . exact Wj g r id a
theorem Aqq(l:Mg h){ids:Aq}(n:∀id∈ids,get h id≠none):∀id∈F3 h ids,get h id≠none:=by
 intro id k;unfold F3 at k;simp only at k;rcases Md _ _ _ k with a | a
 . rcases Md _ _ _ a with f | f
   . rcases Md _ _ _ f with h2 | h2
     . rcases Md _ _ _ h2 with g | g
       . simp at g
       . exact n id g
     . exact Wj l _ _ h2
   . exact Wj l _ _ f
 . have m:∀j,id∈ghost h j->get h id≠none:=by
     intro j b;unfold ghost at b;split at b
     . rename_i i;simp only[BG] at b;subst b;rw[i];simp
     . simp at b
   simp only[Wo,BD] at a;rcases a with a | a | a | a<;>exact m _ a
theorem Aoq(hx:HX e h h'){q:Nat}:∀(l:Hp),fresh q h' l->fresh q h l
 | [],_=>trivial
 | (j,_)::r,a=>⟨a.1.imp id λ b=>hx.nn' b,Aoq hx r a.2⟩
theorem Bhx(hx:HX e h h')(w:∀id,get e id≠none->id<10000)(H:Mg h){f:AH}{ds:Ah}(v:JL h ds){q:Nat}{k:D->Hp->Prop}(p:LD P h' f ds q k):
   LD P h f ds q (λ d y=>(∃Ho,HX e y Ho/\k d Ho)/\Ij none h y):=by
 have s:=Aqq H v;have g:∀id∈F3 h (Fe ds),(get h id).isSome=true:=λ id b=>by
   have:=s id b;cases B:get h id with
   | none=>exact (this B).elim
   | some o=>rfl
 unfold LD at*;rw[Ajf hx w _ g] at p;obtain ⟨u,h2,n⟩:=p;refine ⟨u,BB.2 g,?_⟩;rw[As1 hx _ _ _ g] at n;refine n.mono λ h2 r ⟨z,E⟩=>⟨Aoq hx h2 z,⟨_,XC hx _ _ _,E⟩,?_⟩;intro i b;have key:∀(l:Hp),get (merge (F3 h (Fe ds)) q h l) i≠none->get h i≠none∨some i=none∨10000<=i:=by
   intro l
   induction l with
   | nil=>intro a;exact .inl a
   | cons x r t=>
     obtain ⟨j,o⟩:=x;intro a;simp only[merge] at a;split at a
     . rename_i id hid;rw[DJ] at a;by_cases m:i=id
       . subst m;unfold back at hid;split at hid
         . exact .inl (s i (Bt hid))
         . simp only[Bo] at hid;exact .inr (.inr AQ)
       . rw[if_neg m] at a;exact t a
     . exact t a
 exact key h2 b
theorem Bhv{env:Ar}{n:Nat}(hx:HX e h h')(t:Mg h){f:AM}{args:AD}(p:IH h (ev ⟨env,h,n⟩ f))(o:∀x∈args,IH h (ev ⟨env,h,n⟩ x))
   {k:FuncId×Ah×Hp->Prop} (i:(KL ⟨env,h',n⟩ f args).all k):
   (KL ⟨env,h,n⟩ f args).all (λ y=>(∃Ho,HX e y.2.2 Ho/\k (y.1,y.2.1,Ho))/\JL y.2.2 y.2.1/\Mg y.2.2/\HN h y.2.2):=by
 have q:ev ⟨env,h',n⟩=ev ⟨env,h,n⟩:=funext λ _=>rfl;unfold KL at*;rw[q] at i;have Nl:JL h (args.map (ev ⟨env,h,n⟩)):=by
   intro id b;clear i
   induction args with
   | nil=>simp[Fe] at b
   | cons x r u=>
     simp only[B0,Fe,BD] at b;rcases b with a | a
     . exact o x AT id a
     . exact u (λ y m=>o y (by simp[m])) a
 split at i
 . rename_i g cap s;rw[s] at p;have Fx:JL h (args.map (ev ⟨env,h,n⟩)++cap):=by
     intro id b;rw[Z9,BD] at b;rcases b with a | a
     . exact Nl id a
     . exact p id a
   refine Rs.DS (Rs.Dh (λ y m=>?_) (UM hx t Fx (Rs.all_bind i)));obtain ⟨⟨a,MR,h2⟩,VF,l,j⟩:=m;exact ⟨h2.1,⟨a,MR,h2.2⟩,j.Av5.2 VF,l,j⟩
 . exact i.elim
theorem E1(st:St)(t:Option Nat)(d:D):(st.put t d).hp=st.hp:=by
 cases t with
 | none=>rfl
 | some t=>simp only[St.put];split<;>rfl
theorem Xz{K:St->Prop}{env:Ar}{n:Nat}{dst:Option Nat}(y h2:Hp)(d:D)(a:K ((⟨env,h2,n⟩:St).put dst d)):K {(⟨env,y,n⟩:St).put dst d with hp:=h2}:=by
 cases dst with
 | none=>exact a
 | some t=>
   simp only[St.put] at a ⊢;split
   . rename_i b;rw[if_pos b] at a;exact a
   . rename_i b;rw[if_neg b] at a;exact a
theorem Bbf(d:D):Fe d.cells=d.ids:=by cases d<;>simp[D.cells,D.ids,Fe]
theorem Ado{l:Ah}{d:D}(h:d∈l):∀i∈d.ids,i∈Fe l:=by
 induction l with
 | nil=>cases h
 | cons x r b=>
   intro i a;simp only[Fe,BD];rcases BX.1 h with rfl | h
   . exact .inl a
   . exact .inr (b h i a)
theorem Za{l:Ah}{i:Nat}:i∈Fe l->∃d∈l,i∈d.ids:=by
 induction l with
 | nil=>intro h;simp[Fe] at h
 | cons x r f=>
   intro h;simp only[Fe,BD] at h;rcases h with h | h
   . exact ⟨x,AT,h⟩
   . obtain ⟨d,a,b⟩:=f h;exact ⟨d,by simp[a],b⟩
theorem Ae2{h:Hp}{place:Nat->Option (Nat×Nat)}:∀(j:Ar) (cells cs:Ah),(∀x∈j,IH h x.2)->JL h cells->J5 place cells j=some cs->JL h cs
 | [],cells,cs,_,b,a=>by simp only[J5,Bo] at a;subst a;exact b
 | (i,d)::r,cells,cs,g,b,a=>by
   simp only[J5] at a;split at a
   . cases a
   . split at a
     . refine Ae2 r _ cs (λ x hx=>g x (by simp[hx])) ?_ a;intro id k;obtain ⟨l,JT,HP⟩:=Za k;rcases BD.1 JT with f | f
       . rcases BD.1 f with h2 | h2
         . exact b id (Ado (CA h2) id HP)
         . have:=Ado h2 id HP;rw[Bbf] at this;exact g (i,d) AT id this
       . exact b id (Ado (List.mem_of_mem_drop f) id HP)
     . cases a
theorem Ag9(hx:HX e h h'){t:AG}{x i:D}(f:IH h x):HT P t x i h'=HT P t x i h:=by
 cases x with
 | ref id a b c=>
   have:sg h' id=sg h id:=by simp only[sg,hx.eq (f id A3)]
   simp only[HT,this]
 | p y=>cases y<;>rfl
 | _=>rfl
theorem Bnd{env:Ar}{n:Nat}(hx:HX e h h')(he:∀id,get e id≠none->id<10000)(Y:Mg h){o:Oper}(U:isQ o.op=true)(H:∀x∈o.op.operands.toList,IH h (ev ⟨env,h,n⟩ x)){K:St->Prop}(g:YN P false o K ⟨env,h',n⟩):
   YN P false o (λ st=>(∃Ho,HX e st.hp Ho/\K {st with hp:=Ho})/\Ij (some (o.dst.getD 0)) h st.hp) ⟨env,h,n⟩:=by
 have Q:ev ⟨env,h',n⟩=ev ⟨env,h,n⟩:=funext λ _=>rfl;unfold YN at*;split at g
 . rename_i f args I;rcases Rs.Jr g with g | g
   case inr=>exact (BU g.1).elim
   have Q0:(∀x∈f::args,x∈o.op.operands.toList):=by
     unfold EB at I;split at I
     case h_2=>cases I
     rename_i cl PY;split at I
     case h_2=>cases I
     rename_i f' a1;simp only[Bo,Ci] at I;obtain ⟨rfl,rfl⟩:=I;intro x V;rw[PY];simp[Op.operands,Call.operands,a1] at V ⊢;exact V
   simp only[RH] at g ⊢;refine Rs.Ih (Rs.Dh (λ x Kl=>?_) (Bhv hx Y (H f (Q0 f AT)) (λ x w=>H x (Q0 x (by simp[w]))) g));obtain ⟨⟨B,MR,I⟩,VF,a4,a2⟩:=Kl;refine WE (λ d y u=>?_) (Bhx MR he a4 VF I);obtain ⟨⟨h2,Kl,E⟩,PL⟩:=u;refine ⟨⟨h2,by rw[E1];exact Kl,Xz _ _ _ E⟩,λ i j=>?_⟩;rw[E1] at j;rcases PL i j with k | k | k
   . exact .inl ((a2 i).1 k)
   . cases k
   . exact .inr (.inr k)
 . rcases Rs.Jr g with g | g
   case inr=>exact (BU g.1).elim
   have fin:∀{r:Rs (D×Hp)},r.all (Beh e h (some (o.dst.getD 0)) λ x=>K ((⟨env,x.2,n⟩:St).put o.dst x.1))->
       r.OM (false=true/\VN P o (λ st=>(∃Ho,HX e st.hp Ho/\K {st with hp:=Ho})/\Ij (some (o.dst.getD 0)) h st.hp) ⟨env,h,n⟩) (λ x=>(λ st:St=>(∃Ho,HX e st.hp Ho/\K {st with hp:=Ho})/\Ij (some (o.dst.getD 0)) h st.hp) ((⟨env,x.2,n⟩:St).put o.dst x.1)):=λ hr=>
     Rs.Ih (Rs.Dh (λ x Kl=>by
       obtain ⟨⟨B,MR,E⟩,PL⟩:=Kl;exact ⟨⟨B,by rw[E1];exact MR,Xz _ _ _ E⟩,by rw[E1];exact PL⟩) hr)
   refine fin ?_;cases Q0:o.op with
   | call cl=>
     cases PY:cl.callee with
     | builtin b=>
       cases b<;>rw[Q0] at U<;>simp only[isQ,PY,B2] at U
       . simp only[Pt,Q0,PY,Q] at g ⊢;have Nl:∀x∈cl.args.toList,IH h (ev ⟨env,h,n⟩ x):=λ x w=>H x (by rw[Q0];simp[Op.operands,Call.operands,PY];simpa using w);generalize hl:cl.args.toList.map (ev ⟨env,h,n⟩)=l at g ⊢;rcases l with _ | ⟨s,_ | ⟨x,_ | ⟨z,r⟩⟩⟩
         . exact g.elim
         . cases s<;>first | exact g.elim | (rename_i z;cases z<;>exact g.elim)
         . obtain ⟨S,T,I6,rfl,rfl⟩:=MO hl;have R:∀W:Hp,Ie P ⟨env,W,n⟩ (o.dst.getD 0) .append cl.argTypes [ev ⟨env,h,n⟩ S,ev ⟨env,h,n⟩ T]=match cl.argTypes[0]?,cl.argTypes[1]? with
             | some t,some t2=>Afh P W (o.dst.getD 0) t t2 (ev ⟨env,h,n⟩ S) (ev ⟨env,h,n⟩ T)
             | _,_=> .fail:=λ _=>rfl
           rw[R] at g ⊢;split at g
           . rename_i t t2 B h2;exact Bl2 hx Y (Nl S (by rw[I6];simp)) (Nl T (by rw[I6];simp)) g
           . exact g.elim
         . first | exact g.elim | (cases s<;>first | exact g.elim | (rename_i Z;cases Z<;>exact g.elim))
       . simp only[Pt,Q0,PY,Q] at g ⊢;have Nl:∀x∈cl.args.toList,IH h (ev ⟨env,h,n⟩ x):=λ x w=>H x (by rw[Q0];simp[Op.operands,Call.operands,PY];simpa using w);generalize hl:cl.args.toList.map (ev ⟨env,h,n⟩)=l at g ⊢;rcases l with _ | ⟨s,_ | ⟨x,_ | ⟨z,r⟩⟩⟩
         . exact g.elim
         . cases s<;>first | exact g.elim | (rename_i z;cases z<;>exact g.elim)
         . obtain ⟨S,T,I6,rfl,rfl⟩:=MO hl;have R:∀W:Hp,Ie P ⟨env,W,n⟩ (o.dst.getD 0) .copy cl.argTypes [ev ⟨env,h,n⟩ S,ev ⟨env,h,n⟩ T]=match cl.argTypes[0]?,cl.argTypes[1]? with
             | some t,some _=>Aae P W t (ev ⟨env,h,n⟩ S) (ev ⟨env,h,n⟩ T)
             | _,_=> .fail:=λ _=>rfl
           rw[R] at g ⊢;split at g
           . rename_i t t2 B h2;exact Bhm hx (Nl S (by rw[I6];simp)) (Nl T (by rw[I6];simp)) g
           . exact g.elim
         . first | exact g.elim | (cases s<;>first | exact g.elim | (rename_i Z;cases Z<;>exact g.elim))
     | _=>rw[Q0] at U;rename_i I _;simp only[isQ,PY,B2] at U<;>simp_all [EB]
   | store t a v=>
     simp only[Pt,Q0,Rv,FT,MN,Q] at g ⊢;have B:=Awo hx Y (H a (by rw[Q0];simp[Op.operands])) (H v (by rw[Q0];simp[Op.operands])) (Rs.all_bind g);refine Rs.DS (Rs.Dh (λ y u=>?_) B);obtain ⟨⟨h2,Kl,E⟩,PL⟩:=u;refine ⟨E.1,⟨h2,Kl,E.2⟩,λ i j=>?_⟩;rcases PL i j with k | k | k
     . exact .inl k
     . cases k
     . exact .inr (.inr k)
   | slice t x lo j mx=>
     have hp:=H x (by rw[Q0];simp[Op.operands]);have a9:LX P ⟨env,h',n⟩ t (ev ⟨env,h,n⟩ x) lo j mx=LX P ⟨env,h,n⟩ t (ev ⟨env,h,n⟩ x) lo j mx:=by
       have hb:∀o d,G7 ⟨env,h',n⟩ o d=G7 ⟨env,h,n⟩ o d:=λ o d=>by cases o<;>rfl
       generalize ev ⟨env,h,n⟩ x=d at hp;unfold LX;simp only[hb];rcases Dz P t with _ | ⟨s1,b1,k1,Z⟩
       . rfl
       cases k1 with
       | string=>cases d with
         | p y=>cases y<;>rfl
         | _=>rfl
       | slice e=>
         simp only;cases Dz P e with
         | none=>rfl
         | some ti=>cases d with
           | p y=>cases y<;>rfl
           | ref id off len N=>
             have:sg h' id=sg h id:=by simp only[sg,hx.eq (hp id A3)]
             simp only[this]
           | _=>rfl
       | _=>rfl
     simp only[Pt,Q0,NQ,Q] at g ⊢;rw[a9] at g;have B:=Rs.all_bind g;refine Rs.DS (Rs.Dh (λ y u=>?_) B);exact ⟨u.1,⟨h',hx,u.2⟩,Ij.refl _ _⟩
   | buildSlice t n2 ps=>
     have a7:∀x∈ps.toList.map (λ q=>(q.1,ev ⟨env,h,n⟩ q.2)),IH h x.2:=λ x w=>by
       obtain ⟨q,a8,rfl⟩:=BR.1 w;exact H q.2 (by rw[Q0];simp[Op.operands];exact ⟨q.1,by simpa using a8⟩)
     simp only[Pt,Q0] at g ⊢;have a3:FT ⟨env,h',n⟩ (.buildSlice t n2 ps)=FT ⟨env,h,n⟩ (.buildSlice t n2 ps):=rfl;unfold Rv at g ⊢;rw[a3] at g;split at g
     . rename_i t7 d7 h7;unfold Ahx at g ⊢;split at g
       case h_2=>exact g.elim
       split at g
       case h_2=>exact g.elim
       refine ⟨hx.nn' g.1,⟨_,hx.cons _ _,g.2⟩,λ i j=>?_⟩;rw[Dk] at j;split at j
       . rename_i ej;exact .inr (.inl (by rw[ej]))
       . exact .inl j
     simp only[MN,Q] at g ⊢;split at g
     . split at g
       . split at g
         . rename_i cs a0;have a6:JL h cs:=Ae2 _ _ _ a7 (λ id j=>by
             obtain ⟨d2,JT,HP⟩:=Za j;rw[List.mem_replicate] at JT;rw[JT.2] at HP;simp[D.ids] at HP) a0
           split at g
           . exact g.elim
           rename_i a5;rw[if_neg a5];refine Rs.DS (Rs.Dh (λ y u=>?_) (Acy hx Y a6 (Rs.all_bind g)));obtain ⟨⟨h2,Kl,E⟩,b0,Sp⟩:=u;refine ⟨⟨E.1.1,E.1.2.1,Kl.nn' E.1.2.2⟩,⟨_,Kl.cons _ _,E.2⟩,λ i j=>?_⟩;rw[Dk] at j;split at j
           . rename_i ej;exact .inr (.inl (by rw[ej]))
           . exact .inl ((Sp i).1 j)
         . exact g.elim
       . exact g.elim
     . exact g.elim
   | mapUpdate t m i x=>
     simp only[Pt,Q0,Rv,FT,MN,Q] at g ⊢;have B:=Ax5 hx (H m (by rw[Q0];simp[Op.operands])) (Rs.all_bind g);refine Rs.DS (Rs.Dh (λ y u=>?_) B);obtain ⟨⟨h2,Kl,E⟩,PL⟩:=u;refine ⟨E.1,⟨h2,Kl,E.2⟩,λ i j=>?_⟩;rcases PL i j with k | k | k
     . exact .inl k
     . cases k
     . exact .inr (.inr k)
   | load t a=>
     have hp:=H a (by rw[Q0];simp[Op.operands]);simp only[Pt,Q0,NQ,Q] at g ⊢;rw[Bdl hx hp] at g;have B:=Rs.all_bind g;refine Rs.DS (Rs.Dh (λ y u=>?_) B);exact ⟨u.1,⟨h',hx,u.2⟩,Ij.refl _ _⟩
   | indexAddr t x i=>
     have hp:=H x (by rw[Q0];simp[Op.operands]);simp only[Pt,Q0,NQ,Q] at g ⊢;rw[Ag9 hx hp] at g;have B:=Rs.all_bind g;refine Rs.DS (Rs.Dh (λ y u=>?_) B);exact ⟨u.1,⟨h',hx,u.2⟩,Ij.refl _ _⟩
   | _=>rw[Q0] at U;simp[isQ] at U
end
end Go.Am
namespace Go.Am
open Go
mutual
def Bor (h:Hp):D->D->Prop
  | .p x,d=>d= .p x
  | .cl es,d=>d= .p (.sl es)
  | .ref id off len N,d=>match get h id with
    | some (.arr _ _ es)=>N=es.length/\d= .p (.sl ((es.drop off).take len))
    | some (.Om _ es)=>N=es.length/\d= .p (.sl ((es.drop off).take len))
    | _=>False
  | .E8 id n,d=>match get h id with
    | some (.Fi _ _ _ _ rows none)=>n=rows.length/\d= .p (.sl (rows.map λ r=>[.sl r]))
    | _=>False
  | .nr id i len k,d=>match get h id with
    | some (.Fi _ _ _ k2 rows none)=>(k=k2/\i<rows.length/\len=(rows.getD i []).length)/\d= .p (.sl (rows.getD i []))
    | _=>False
  | .agg cs,.agg cs'=>OQ h cs cs'
  | .fn f cap,.fn f' Bhu=>f'=f/\OQ h cap Bhu
  | _,_=>False
def OQ (h:Hp):Ah->Ah->Prop
  | [],[]=>True
  | d::r,d'::r'=>Bor h d d'/\OQ h r r'
  | _,_=>False
end
def D.Ai5:D->Bool
 | .p x=>x.flat
 | _=>false
def D.flat:D->Bool
 | .p x=>x.flat
 | .Em cs=>cs.all D.Ai5
 | .agg cs=>cs.all D.Ai5
 | _=>false
mutual
def D.Lw:D->D
  | .p x=>if x.flat then .p x else .WX
  | .agg cs=> .agg (Nb cs)
  | .Em cs=> .Em (Nb cs)
  | _=> .bad
def Nb:Ah->Ah
  | []=>[]
  | d::r=>d.Lw::Nb r
end
mutual
def D.LY (q:Nat):D->D
  | .p x=>if x.flat then .p x else .WX
  | .ref id off len N=>if id=0 then .ref q off len N else .bad
  | .agg cs=> .agg (Mp q cs)
  | .Em cs=> .Em (Mp q cs)
  | _=> .bad
def Mp (q:Nat):Ah->Ah
  | []=>[]
  | d::r=>d.LY q::Mp q r
end
theorem Tc(q):∀cs:Ah,(Mp q cs).length=cs.length
 | []=>rfl
 | _::r=>by simp[Mp,Tc q r]
theorem Td(q):∀(cs:Ah) (i:Nat),(Mp q cs)[i]?=(cs[i]?).map (D.LY q)
 | [],i=>by simp[Mp]
 | d::r,0=>by simp[Mp]
 | d::r,i+1=>by simp[Mp,Td q r i]
theorem V0:∀cs:Ah,(Nb cs).length=cs.length
 | []=>rfl
 | _::r=>by simp[Nb,V0 r]
theorem V1:∀(cs:Ah) (i:Nat),(Nb cs)[i]?=(cs[i]?).map D.Lw
 | [],i=>by simp[Nb]
 | d::r,0=>by simp[Nb]
 | d::r,i+1=>by simp[Nb,V1 r i]
theorem Z0:∀{d:D},d.Ai5=true->d.Lw=d
 | .p x,h=>by simp only[D.Ai5] at h;simp[D.Lw,h]
 | .agg _,h | .Em _,h | .cl _,h | .cz _,h | .ref _ _ _ _,h | .ptr _ _,h | .pe _,h | .ea _ _ _ _,h | .fn _ _,h | .np,h | .mv _,h | .E8 _ _,h | .Sn _ _ _,h | .nr _ _ _ _,h | .WX,h | .bad,h=>by simp[D.Ai5] at h
theorem Tb:∀{cs:Ah},cs.all D.Ai5=true->Nb cs=cs
 | [],_=>rfl
 | d::r,h=>by
   simp only[List.all_cons,BA] at h;simp[Nb,Z0 h.1,Tb h.2]
theorem Acd{d:D}(h:d.flat=true):d.Lw=d:=by
 cases d with
 | p x=>exact Z0 h
 | agg cs=>simp only[D.flat] at h;simp[D.Lw,Tb h]
 | Em cs=>simp only[D.flat] at h;simp[D.Lw,Tb h]
 | _=>simp[D.flat] at h
section
variable {F F':Nat->Prop} {w w':AI} {M M':Nat->Mb} {s s':Nat->Option Sg} {h h' e:Hp}
theorem DR.Lw{d:D}{v:AJ}(y:DR F w M s d v):DR F' w' M' s' d.Lw v:=by
 induction y with
 | p r=>
   simp only[D.Lw];split
   . rename_i q;cases r with
     | int k n=>exact .p (.int k n)
     | bool b=>exact .p (.bool b)
     | str l=>exact .p (.str l)
     | ifi t k n=>exact .p (.ifi t k n)
     | ifs t l=>exact .p (.ifs t l)
     | sl0 a cap=>simp[Pd.flat] at q
     | sl z b off cap E row t B _ _ _ _ _ _=>simp[Pd.flat] at q
   . exact .WX _ r.Mq
 | agg cs o j u m=>
   simp only[D.Lw];refine .agg _ o (by rw[V0];exact j) λ i c f=>?_;rw[V1] at f;cases g:cs[i]? with
   | none=>rw[g] at f;cases f
   | some x=>rw[g] at f;cases f;exact m i x g
 | Em cs o j u m=>
   simp only[D.Lw];refine .Em _ o (by rw[V0];exact j) λ i c f=>?_;rw[V1] at f;cases g:cs[i]? with
   | none=>rw[g] at f;cases f
   | some x=>rw[g] at f;cases f;exact m i x g
 | _=>simp only[D.Lw];exact .bad _
theorem DR.LY{d:D}{v:AJ}{q sz n:Nat}(I:DR F w M s d v)(h0:s 0=some (.arr sz n))(H:s' q=some (.arr sz n))(z:M' q=M 0):DR F' w' M' s' (d.LY q) v:=by
 induction I with
 | p y=>
   simp only[D.LY];split
   . rename_i u;cases y with
     | int k n=>exact .p (.int k n)
     | bool b=>exact .p (.bool b)
     | str l=>exact .p (.str l)
     | ifi t k n=>exact .p (.ifi t k n)
     | ifs t l=>exact .p (.ifs t l)
     | sl0 a cap=>simp[Pd.flat] at u
     | sl Q b off cap sz row t R _ _ _ _ _ _=>simp[Pd.flat] at u
   . exact .WX _ y.Mq
 | agg cs r j E o=>
   simp only[D.LY];refine .agg _ r (by rw[Tc];exact j) λ i c f=>?_;rw[Td] at f;cases g:cs[i]? with
   | none=>rw[g] at f;cases f
   | some x=>rw[g] at f;cases f;exact o i x g
 | Em cs r j E o=>
   simp only[D.LY];refine .Em _ r (by rw[Tc];exact j) λ i c f=>?_;rw[Td] at f;cases g:cs[i]? with
   | none=>rw[g] at f;cases f
   | some x=>rw[g] at f;cases f;exact o i x g
 | ref id off len N ZW S v m B K h=>
   simp only[D.LY];split
   . rename_i e;subst e;rw[h0] at m;simp only[Bo,Sg.arr.injEq] at m;obtain ⟨rfl,rfl⟩:=m;exact .ref q off len N _ _ v H B K (λ e=>by rw[z];exact h e)
   . exact .bad _
 | _=>simp only[D.LY];exact .bad _
theorem PR.Bti{x:Pd}{v:AJ}(f:x.flat=true)(h:PR F w x v):PR F' w' x v:=by
 cases h with
 | int k n=>exact .int k n
 | bool b=>exact .bool b
 | str l=>exact .str l
 | ifi t k n=>exact .ifi t k n
 | ifs t l=>exact .ifs t l
 | sl0 a cap=>simp[Pd.flat] at f
 | sl g b off cap j row t i _ _ _ _ _ _=>simp[Pd.flat] at f
def Ajn(F:Nat->Prop)(M:Nat->Mb)(h:Hp):Nat->Prop:=λ b=>F b∨Ht M h b
mutual
theorem Bc5 (hr:HR F w M h):∀(d d':D) {v:AJ},DR F w M (sg h) d v->Bor h d d'->DR (Ajn F M h) w M (sg []) d' v
  | .p x,d',v,hd,hb=>by
    simp only[Bor] at hb;subst hb;cases hd with | p hp=>exact .p (hp.keep (λ _ _=>rfl) λ b hb=> .inl hb)
  | .cl es,d',v,hd,hb=>by
    simp only[Bor] at hb;subst hb;cases hd with | cl _ ad hp _=>exact .p (hp.keep (λ _ _=>rfl) λ b hb=> .inl hb)
  | .ref id off len N,d',v,hd,hb=>by
    simp only[Bor] at hb;cases hd with | ref _ _ _ _ sz n _ hs hN hv hx=>
      split at hb
      . rename_i t ZW es ho;obtain ⟨hb1,rfl⟩:=hb;have:ZW=sz/\es.length=n:=by simpa [sg,ho,AO.sg] using hs
        obtain ⟨rfl,rfl⟩:=this;exact .p (O7 (st:=⟨[],h,0⟩) hr (.inl ⟨t,ho⟩) rfl (hx hb1) (λ b hb=> .inl hb) λ hc=> .inr ⟨id,_,ho,hc,rfl⟩)
      . rename_i ZW es ho;obtain ⟨hb1,rfl⟩:=hb;have:ZW=sz/\es.length=n:=by simpa [sg,ho,AO.sg] using hs
        obtain ⟨rfl,rfl⟩:=this;have hob:=hr.obj id _ ho;exact .p (O7 (st:=⟨[],h,0⟩) hr (.inr ho) rfl (hx hb1) (λ b hb=> .inl hb) λ hc=> .inl (hob.2.2.2 hc).1)
      . exact hb.elim
  | .E8 id n,d',v,hd,hb=>by
    simp only[Bor] at hb;cases hd with | E8 _ _ sz m k _ hs hN hv hx=>
      split at hb
      . rename_i t e2 ZW k2 rows ho;obtain ⟨hb1,rfl⟩:=hb;have:ZW=sz/\rows.length=m/\k2=k:=by simpa [sg,ho,AO.sg] using hs
        obtain ⟨rfl,rfl,rfl⟩:=this;refine .p ((WU (st:=⟨[],h,0⟩) hr ho (by have:=hx hb1;rwa[hb1] at this)).keep (λ _ _=>rfl) λ b hb=>?_);rcases hb with hb | hb
        . exact .inl hb
        . exact .inr ⟨id,_,ho,hb⟩
      . exact hb.elim
  | .nr id i len q,d',v,hd,hb=>by
    simp only[Bor] at hb;cases hd with | nr _ _ _ _ sz m k _ hs hN hv hx=>
      split at hb
      . rename_i t e2 ZW k2 rows ho;obtain ⟨⟨hb1,hb2,hb3⟩,rfl⟩:=hb;have:ZW=sz/\rows.length=m/\k2=k:=by simpa [sg,ho,AO.sg] using hs
        obtain ⟨rfl,rfl,rfl⟩:=this;obtain ⟨bc,g1,g2,a,g3,g4⟩:=hx hb1;have hn:M4 F w (M id) t e2 ZW rows none:=hr.obj id _ ho;have hg:rows[i]?=some (rows.getD i []):=by simp[List.getD,hb2]
        subst g3;rw[hb3];exact .p ((hn.rows i _ bc hg g1 AT).pure (λ b hb=> .inl hb) (λ hc=> .inr ⟨id,_,ho,.inr ⟨i,bc,g1,hc,rfl⟩⟩) g4)
      . exact hb.elim
  | .agg cs,.agg cs',v,hd,hb=>by
    simp only[Bor] at hb;cases hd with | agg _ vs hl hc=>
      have h1:=RS hr cs cs' (vs:=vs.toList) (by simpa using hl) (λ i e he=>by have:=hc i e he;simpa [List.getD,Array.getD_eq_getD_getElem?] using this) hb;exact .agg _ vs (by have:=h1.1;simpa using this) (λ i e he=>by have:=h1.2 i e he;simpa [List.getD,Array.getD_eq_getD_getElem?] using this)
  | .fn f cap,.fn f' Bhu,v,hd,hb=>by
    simp only[Bor] at hb;obtain ⟨rfl,hb⟩:=hb;cases hd with | fn _ _ vs hl hc=>
      have h1:=RS hr cap Bhu (vs:=vs.toList) (by simpa using hl) (λ i e he=>by have:=hc i e he;simpa [List.getD,Array.getD_eq_getD_getElem?] using this) hb;exact .fn _ _ vs (by have:=h1.1;simpa using this) (λ i e he=>by have:=h1.2 i e he;simpa [List.getD,Array.getD_eq_getD_getElem?] using this)
theorem RS (hr:HR F w M h):∀(ds YG:Ah) {vs:At},vs.length=ds.length->(∀(i:Nat) c,ds[i]?=some c->DR F w M (sg h) c (vs.getD i undef))->OQ h ds YG->Np (Ajn F M h) w M (sg []) YG vs
  | [],[],vs,hl,_,_=>⟨hl,λ i c hi=>by simp at hi⟩
  | d::r,d'::r',vs,hl,hc,hb=>by
    simp only[OQ] at hb;rcases vs with _ | ⟨x,vs⟩
    . simp at hl
    have h0:=Bc5 hr d d' (v:=x) (by simpa using hc 0 d rfl) hb.1;have h1:=RS hr r r' (vs:=vs) (by simpa using hl) (λ i c hi=>by simpa using hc (i+1) c (by simpa using hi)) hb.2;refine ⟨by simp[h1.1],λ i c hi=>?_⟩;rcases i with _ | i
    . simp at hi;subst hi;simpa using h0
    . simpa using h1.2 i c (by simpa using hi)
end
mutual
theorem Bc6:∀(d d':D),(∀id∈d.ids,get h' id=get h id)->Bor h d d'->Bor h' d d'
  | .p x,d',_,hb=>by simp only[Bor] at hb ⊢;exact hb
  | .cl es,d',_,hb=>by simp only[Bor] at hb ⊢;exact hb
  | .ref id off len N,d',hg,hb=>by simp only[Bor] at hb ⊢;rw[hg id A3];exact hb
  | .E8 id n,d',hg,hb=>by simp only[Bor] at hb ⊢;rw[hg id A3];exact hb
  | .nr id i len q,d',hg,hb=>by simp only[Bor] at hb ⊢;rw[hg id A3];exact hb
  | .agg cs,.agg cs',hg,hb=>by simp only[Bor] at hb ⊢;exact OP cs cs' (λ id hi=>hg id (by simpa [D.ids] using hi)) hb
  | .fn f cap,.fn f' Bhu,hg,hb=>by simp only[Bor] at hb ⊢;exact ⟨hb.1,OP cap Bhu (λ id hi=>hg id (by simpa [D.ids] using hi)) hb.2⟩
theorem OP:∀(ds YG:Ah),(∀id∈Fe ds,get h' id=get h id)->OQ h ds YG->OQ h' ds YG
  | [],[],_,_=>by simp only[OQ]
  | d::r,d'::r',hg,hb=>by
    simp only[OQ] at hb ⊢;exact ⟨Bc6 d d' (λ id hi=>hg id (by simp[Fe,hi])) hb.1,OP r r' (λ id hi=>hg id (by simp[Fe,hi])) hb.2⟩
end
end
def Tq(dst:Option Nat):Nat:=10000+dst.getD 0
def St.made(st:St)(dst:Option Nat)(a:AO)(r:D):St:=({st with hp:=(Tq dst,a)::st.hp}:St).put dst (r.LY (Tq dst))
def Buo(dst:Option Nat)(K:St->Prop)(st:St)(h:Hp)(r:D):Prop:=
 (h=[]/\K (st.put dst r.Lw))∨∃t b a,h=[(0,.arr t b a)]/\(∀e∈a,∀c∈e,c.flat=true)/\get st.hp (Tq dst)=none/\K (st.made dst (.arr t b a) r)
def Afo(P:AK)(o:Oper)(K:St->Prop)(st:St):Prop:=
 ∃(f:AM) (args:AD) (g:AH) (cap a:Ah),EB o.op=some (f,args)/\ev st f= .fn g cap/\OQ st.hp (args.map (ev st)++cap) a/\
   C4 P g a [] (Buo o.dst K st)
section
variable {P:AK} {c:Ctx} {st st':St} {a:Act} {w:AI} {F:Nat->Prop} {M:Nat->Mb} {o:Oper} {K K':St->Prop}
theorem Rel.Axb(e:Rel c st a w F M){v:AJ}{w':AI}{F':Nat->Prop}{M':Nat->Mb}{d:D}(j:DR F' w' M' (sg []) d v)(f:Aup ⟨w,Ajn F M st.hp,Ht M [],M,sg []⟩ w' F' M' []):
   Rel c st a w' F M/\DR F w' M (sg st.hp) d.Lw v:=by
 have XM:∀b,¬Ht M [] b:=by rintro b ⟨id,o,k,_⟩;simp[get] at k
 have hold:∀b,b<w.heap.size->w'.heap[b]?=w.heap[b]?:=λ b hb=>f.Up b hb (XM b);have HO:w.heap.size<=w'.heap.size:=f.size;have i:∀b,F b->w'.heap[b]?=w.heap[b]?:=λ b hb=>hold b (e.keep.Fl b hb);have g:∀b,Ht M st.hp b->w'.heap[b]?=w.heap[b]?:=λ b hb=>hold b (e.heap.lt hb);refine ⟨⟨λ t d l=>(e.env t d l).keep i (λ _ h=>h) (Eb.refl _ _),e.size,e.defers,e.heap.keep i g,?_⟩,j.Lw⟩;have Km:=e.keep;exact ⟨f.os.trans Km.os,f.tape.trans Km.tape,f.output.trans Km.output,CF Km.size HO,λ b hb g=>(hold b (Nat.lt_of_lt_of_le hb Km.size)).trans (Km.Up b hb g),Km.F0,Km.Fn,
   λ b hb=>Nat.lt_of_lt_of_le (Km.Fl b hb) HO,Km.own,Km.sgk,Km.s0b⟩
theorem Rel.Bs3(T:Rel c st a w F M){v:AJ}{w':AI}{F':Nat->Prop}{M':Nat->Mb}{d:D}{q sz:Nat}{t:AG}{es:Ae}(S:get st.hp q=none)(N:∀e∈es,∀c∈e,c.flat=true)
   (Q:HR F' w' M' [(0,.arr t sz es)]) (I:DR F' w' M' (sg [(0,.arr t sz es)]) d v) (f:Aup ⟨w,Ajn F M st.hp,Ht M [],M,sg []⟩ w' F' M' [(0,.arr t sz es)]):
   ∃M2,Rel c {st with hp:=(q,.arr t sz es)::st.hp} a w' F M2/\DR F w' M2 (sg ((q,AO.arr t sz es)::st.hp)) (d.LY q) v:=by
 have XM:∀b,¬Ht M [] b:=by rintro b ⟨id,o,R,_⟩;simp[get] at R
 have hold:∀b,b<w.heap.size->w'.heap[b]?=w.heap[b]?:=λ b hb=>f.Up b hb (XM b);have HO:w.heap.size<=w'.heap.size:=f.size;have l:=Q.obj 0 _ rfl;have Ds:∀j,get ((q,AO.arr t sz es)::st.hp) j=if j=q then some (.arr t sz es) else get st.hp j:=λ j=>by rw[Dk];by_cases e:q=j<;>simp[e,eq_comm]
 let M2:Nat->Mb:=λ j=>if j=q then M' 0 else M j
 have k:∀j,j≠q->M2 j=M j:=λ j e=>by simp[M2,e]
 have Mr:M2 q=M' 0:=by simp[M2]
 refine ⟨M2,T.change (M':=M2) Ds k (Ji Ds k S) f.os f.tape f.output HO (λ b hb _=>hold b hb) ?_ (λ b hb=>?_),?_⟩
 . rw[Mr];obtain ⟨g,h2,p,r,s⟩:=l;refine ⟨g,h2,p,r,λ H=>?_⟩;obtain ⟨u,row,y,z,B⟩:=s H;exact ⟨λ E=>u (f.F0 _ (.inl E)),row,y,z,λ i e j x m hx=>(B i e j x m hx).Bti (N e (Bt m) x (Bt hx))⟩
 . rw[Mr] at hb;rcases f.own b ⟨0,_,rfl,hb⟩ with g | g
   . exact (XM b g).elim
   . exact .inr g
 . exact I.LY (sz:=sz) (n:=es.length) (by simp[sg,get,AO.sg]) (by simp[sg,get,AO.sg]) Mr
theorem Afm(g:Rel c st a w F M){v:AJ}{w':AI}{F':Nat->Prop}{M':Nat->Mb}{d:D}{h:Hp}{dst:Option Nat}{K:St->Prop}(hb:Buo dst K st h d)(j:HR F' w' M' h)(e:DR F' w' M' (sg h) d v)
   (f:Aup ⟨w,Ajn F M st.hp,Ht M [],M,sg []⟩ w' F' M' h):Good c K (a.put dst v) w':=by
 rcases hb with ⟨rfl,b⟩ | ⟨t,m,l,rfl,i,k,b⟩
 . obtain ⟨JH,JT⟩:=g.Axb e f;exact ⟨_,F,M,b,JH.put JT dst⟩
 . obtain ⟨M2,JH,JT⟩:=g.Bs3 k i j e f;exact ⟨_,F,M2,b,JH.put JT dst⟩
theorem RR(l:Rel c st a w F M)(hb:Afo P o K st)(Q:Exit->Act->World->Prop):o.wp P a w (Good c K) Q:=by
 obtain ⟨f,args,g,cap,N,j,H,Beq,Adu⟩:=hb;unfold EB at j;split at j
 case h_2=>cases j
 rename_i cl Q0;split at j
 case h_2=>cases j
 rename_i u x;simp only[Bo,Ci] at j;obtain ⟨rfl,rfl⟩:=j;have k:=Dj l u;rw[H] at k;generalize m:a.eval u=vf at k;cases k with
 | fn _ _ Afa I B=>
   have Nl:=(Zi l cl.args.toList).append (cs':=cap) (vs':=Afa.toList) ⟨by simpa using I,λ i e E=>by have:=B i e E;simpa [List.getD,Array.getD_eq_getD_getElem?] using this⟩;have p:=RS l.heap _ _ Nl.1 Nl.2 Beq;have Be6:=Adu (cl.args.map a.eval++Afa) w (Ajn F M st.hp) M ⟨λ id o j=>by simp[get] at j,λ id o WO R b j=>by simp[get] at j⟩
     (λ b hb=>hb.elim (l.keep.Fl b) l.heap.lt) (λ id hid=>by simp[sg,get] at hid) (by simpa using p)
   rcases Be6 with ⟨Lf,Wn⟩ | ⟨v,y,Ry,O1⟩
   . have EY:(execOp a.eval o).run P w= .ok (.enter g (cl.args.map a.eval++Afa)) w:=by
       simp only[execOp,Q0,x,resolve,m,Deferred.ofValue,Sem.run_bind,Sem.run_pure,Result.andThen_ok,invoke,Array.empty_append];exact Lf
     unfold Oper.wp;rw[EY];refine Wn.mono ?_;rintro e y ⟨v,z,r,F2,M2,rfl,s,q,n,LA⟩;exact Afm l s q n LA
   . have EY:(execOp a.eval o).run P w= .ok (.value v) y:=by
       simp only[execOp,Q0,x,resolve,m,Deferred.ofValue,Sem.run_bind,Sem.run_pure,Result.andThen_ok,invoke,Array.empty_append];exact Ry
     obtain ⟨S,z,r,F2,M2,t,s,q,n,LA⟩:=O1;cases t;unfold Oper.wp;rw[EY];exact Afm l s q n LA
theorem Adh{f:AM}{args:AD}(b:EB o.op=some (f,args)):∀x∈f::args,x∈o.op.operands.toList:=by
 unfold EB at b;split at b
 case h_2=>cases b
 rename_i cl PY;split at b
 case h_2=>cases b
 rename_i i g;simp only[Bo,Ci] at b;obtain ⟨rfl,rfl⟩:=b;intro x e;rw[PY];simp[Op.operands,Call.operands,g] at e ⊢;exact e
theorem Afn(h:∀x∈o.op.operands.toList,ev st' x=ev st x)(hp:∀id,get st'.hp id=get st.hp id)(n:∀d,K (st.put o.dst d)->K' (st'.put o.dst d))
   (e:∀t sz es d,K (st.made o.dst (.arr t sz es) d)->K' (st'.made o.dst (.arr t sz es) d)) (hb:Afo P o K st):Afo P o K' st':=by
 obtain ⟨f,args,g,cap,j,i,p,Beq,Adu⟩:=hb;have hx:=Adh i;have Nl:args.map (ev st')=args.map (ev st):=List.map_congr_left λ x Kl=>h x (hx x (by simp[Kl]));refine ⟨f,args,g,cap,j,i,(h f (hx f AT)).trans p,?_,Adu.mono λ q r b=>b.imp (λ b=>⟨b.1,n _ b.2⟩) λ ⟨t,sz,es,k,h2,l,m⟩=>⟨t,sz,es,k,h2,by rw[hp];exact l,e _ _ _ _ m⟩⟩;rw[Nl];exact OP _ _ (λ id _=>hp id) Beq
theorem Bln{env:Ar}{n:Nat}{e h h':Hp}(hx:HX e h h')(s:∀x∈o.op.operands.toList,IH h (ev ⟨env,h,n⟩ x))(hb:Afo P o K ⟨env,h',n⟩):
   Afo P o (λ st=>(∃Ho,HX e st.hp Ho/\K {st with hp:=Ho})/\Ij (some (o.dst.getD 0)) h st.hp) ⟨env,h,n⟩:=by
 obtain ⟨f,args,g,cap,v,p,q,Beq,Adu⟩:=hb;have Bso:=Adh p;refine ⟨f,args,g,cap,v,p,q,?_,Adu.mono λ h2 r k=>k.imp (λ k=>⟨k.1,⟨h',by rw[E1];exact hx,Xz _ _ _ k.2⟩,λ i b=>by rw[E1] at b;exact .inl b⟩) λ ⟨t,u,m,j,z,B,E⟩=>
   ⟨t,u,m,j,z,hx.nn' B,⟨(Tq o.dst,.arr t u m)::h',by simp only[St.made,E1];exact hx.cons _ _,Xz _ _ _ E⟩,λ i b=>by
     simp only[St.made,E1,Dk] at b;split at b
     . rename_i e;exact .inr (.inr (by rw[<-e];unfold Tq;omega))
     . exact .inl b⟩⟩
 refine OP _ _ (λ id hid=>?_) Beq;rw[Z9,BD] at hid;have VE:get h id≠none:=by
   rcases hid with l | l
   . obtain ⟨d,H,b⟩:=Za l;obtain ⟨x,Kl,rfl⟩:=BR.1 H;exact s x (Bso x (by simp[Kl])) id b
   . have j:=s f (Bso f AT) id;have y:ev ⟨env,h,n⟩ f= .fn g cap:=q;rw[y] at j;exact j (by simpa [D.ids] using l)
 exact (hx.eq VE).symm
def wDq(P:AK)(o:Oper)(K:St->Prop)(st:St):Prop:=YN P false o K st∨Afo P o K st
theorem Awe(b:Rel c st a w F M)(h:wDq P o K st)(Q:Exit->Act->World->Prop):o.wp P a w (Good c K) Q:=h.elim (λ h=>YK b h Q) λ h=>RR b h Q
end
end Go.Am
namespace Go.Am
open Go
structure QV(st st':St):Prop where
 n:st'.n=st.n
 env:∀t,get st'.env t=get st.env t
 hp:∀id,get st'.hp id=get st.hp id
theorem QV.refl(st):QV st st:=⟨rfl,λ _=>rfl,λ _=>rfl⟩
theorem QV.symm{a b}(h:QV a b):QV b a:=⟨h.n.symm,λ t=>(h.env t).symm,λ t=>(h.hp t).symm⟩
theorem QV.trans{a b c}(h:QV a b)(h':QV b c):QV a c:=⟨h'.n.trans h.n,λ t=>(h'.env t).trans (h.env t),λ t=>(h'.hp t).trans (h.hp t)⟩
theorem Rel.eqv{c}{st st'}{a}{w}{F:Nat->Prop}{M}(f:Rel c st a w F M)(h:QV st st'):Rel c st' a w F M:=by
 have i:sg st'.hp=sg st.hp:=funext λ id=>by unfold sg;rw[h.hp]
 refine ⟨λ t d k=>?_,by rw[h.n];exact f.size,f.defers,?_,?_⟩
 . rw[i];exact f.env t d (by rw[<-h.env];exact k)
 . exact ⟨λ id o g=>by rw[i];exact f.heap.obj id o (by rw[<-h.hp];exact g),λ id o WO l b g Us=>f.heap.inj id o WO l b (by rw[<-h.hp];exact g) (by rw[<-h.hp];exact Us)⟩
 . have e:=f.keep;exact ⟨e.os,e.tape,e.output,e.size,e.Up,e.F0,e.Fn,e.Fl,λ b ⟨id,o,g,j⟩=>e.own b ⟨id,o,by rw[<-h.hp];exact g,j⟩,by rw[i];exact e.sgk,e.s0b⟩
def Ab7(K:St->Prop):Prop:=∀b a,QV b a->K b->K a
def Bq2(K:St->Prop):St->Prop:=λ b=>∃a,QV b a/\K a
theorem Ab7.of(K:St->Prop):Ab7 (Bq2 K):=λ _ _ h ⟨s,a,h2⟩=>⟨s,h.symm.trans a,h2⟩
theorem Ali{st st'}(h:QV st st')(x):ev st' x=ev st x:=by
 cases x<;>simp only[ev,h.env]
theorem Lg{st:St}{t}{d}(q):get (st.put t d).env q=if t=some q/\q<st.n then some d else get st.env q:=by
 cases t with
 | none=>simp[St.put]
 | some t=>
   simp only[St.put];by_cases a:t<st.n
   . rw[if_pos a];simp only[Dk,Bo];by_cases e:t=q
     . subst e;simp[a]
     . simp[e]
   . rw[if_neg a];by_cases e:t=q
     . subst e;simp[a]
     . simp[e]
theorem Oc(st:St)(t)(d):(st.put t d).n=st.n:=by
 cases t with
 | none=>rfl
 | some t=>simp only[St.put];split<;>rfl
theorem QV.put{st st'}(h:QV st st')(t)(d):QV (st.put t d) (st'.put t d):=by
 refine ⟨by rw[Oc,Oc];exact h.n,λ q=>?_,λ id=>by rw[E1,E1];exact h.hp id⟩;rw[Lg,Lg,h.n,h.env]
theorem QV.heap{st st'}(h:QV st st'){x x'}(hx:∀id,get x' id=get x id):QV {st with hp:=x} {st' with hp:=x'}:=⟨h.n,h.env,hx⟩
theorem QV.swap{st:St}{t u}{d x}(EH:∀q,t=some q->u≠some q):QV ((st.put t d).put u x) ((st.put u x).put t d):=by
 refine ⟨by simp only[Oc],λ q=>?_,λ id=>by simp only[E1]⟩;simp only[Lg,Oc];by_cases a:t=some q/\q<st.n
 . rw[if_pos a];have:=EH q a.1;simp[this,a]
 . rw[if_neg a];by_cases h2:u=some q/\q<st.n
   . simp[h2,a]
   . simp[h2,a]
section
variable {P:AK}
def Looks(l:As)(o:Oper)(st st':St):Prop:=(∀x∈o.op.operands.toList,ev st' x=ev st x)/\PO st' l o.guard=PO st l o.guard
theorem Av8{st st':St}:∀{l:AD},(∀x∈l,ev st' x=ev st x)->l.map (ev st')=l.map (ev st)
 | [],_=>rfl
 | x::r,h=>by simp only[B0,h x AT,Av8 (l:=r) (λ y a=>h y (by simp[a]))]
theorem Aky{st st':St}:∀{l:AF},(∀x∈l.map (·.2),ev st' x=ev st x)->l.map (λ q=>(q.1,ev st' q.2))=l.map (λ q=>(q.1,ev st q.2))
 | [],_=>rfl
 | x::r,h=>by simp only[B0,h x.2 AT,Aky (l:=r) (λ y a=>h y (by simp only[B0,BX];exact .inr a))]
theorem RL{st st':St}{o:Option Operand}{n:Int}(h:∀x∈o.toList,ev st' x=ev st x):G7 st' o n=G7 st o n:=by
 cases o with
 | none=>rfl
 | some x=>simp only[G7,h x AT]
theorem UK{st st':St}{o:Oper}(h:∀x∈o.op.operands.toList,ev st' x=ev st x)(hp:st'.hp=st.hp):Pt P st' o=Pt P st o:=by
 unfold Pt;generalize o.op=op at h;cases op with
 | call c=>
   simp only;cases u:c.callee with
   | builtin b=>
     simp only;have:c.args.toList.map (ev st')=c.args.toList.map (ev st):=Av8 λ x hx=>h x (by simp[Op.operands,Call.operands,u];simpa using hx);rw[this];unfold Ie;rw[hp]
   | _=>rfl
 | slice t x i g j=>
   have e:ev st' x=ev st x:=h x (by simp[Op.operands]);have h2:∀n,G7 st' i n=G7 st i n:=λ n=>RL λ y l=>h y (by simp[Op.operands];cases i<;>simp_all);have p:∀n,G7 st' g n=G7 st g n:=λ n=>RL λ y l=>h y (by simp[Op.operands];cases g<;>simp_all);have s:∀m n,j=some m->G7 st' (some m) n=G7 st (some m) n:=λ m n B=>RL λ y l=>h y (by simp[Op.operands];simp_all);have:LX P st' t (ev st x) i g j=LX P st t (ev st x) i g j:=by
     unfold LX;simp only[h2,p,hp];cases j with
     | none=>rfl
     | some m=>simp only[s m _ rfl]
   simp only[NQ,e,this,hp]
 | build t f=>
   have e:f.toList.map (λ q=>(q.1,ev st' q.2))=f.toList.map (λ q=>(q.1,ev st q.2)):=Aky λ x hx=>h x (by simpa [Op.operands] using hx);simp only[NQ,Afb,e,hp]
 | buildSlice t n f=>
   have e:f.toList.map (λ q=>(q.1,ev st' q.2))=f.toList.map (λ q=>(q.1,ev st q.2)):=Aky λ x hx=>h x (by simpa [Op.operands] using hx);have h2:FT st' (.buildSlice t n f)=FT st (.buildSlice t n f):=by
     unfold FT;split
     . rename_i E w heq;cases heq;split
       . rename_i x z k;simp only[h x (by simp[Op.operands,k])]
       . rfl
     . rfl
   simp only[Rv,h2,MN,e,hp]
 | makeFunc fn first cap=>
   have e:cap.toList.map (ev st')=cap.toList.map (ev st):=Av8 λ x hx=>h x (by simp[Op.operands];exact .inr (by simpa using hx));cases fn<;>simp only[NQ,e,hp]
 | makeMap t r=>cases r<;>simp only[Rv,FT,MN,hp]
 | typeAssert x a t v=>
   have e:ev st' x=ev st x:=h x (by simp[Op.operands]);cases v<;>simp only[NQ,e,hp]
 | _=>simp[Op.operands] at h<;>simp only[NQ,Rv,FT,MN,h,hp]
theorem Aqu{st st':St}{o:Oper}{f:AM}{args:AD}(a:EB o.op=some (f,args))(h:∀x∈o.op.operands.toList,ev st' x=ev st x)(hp:st'.hp=st.hp):KL st' f args=KL st f args:=by
 unfold EB at a;split at a
 case h_2=>cases a
 rename_i cl PY;split at a
 case h_2=>cases a
 rename_i e b;simp only[Bo,Ci] at a;obtain ⟨rfl,rfl⟩:=a;rw[PY] at h;have g:ev st' e=ev st e:=h e (by simp[Op.operands,Call.operands,b]);have h2:cl.args.toList.map (ev st')=cl.args.toList.map (ev st):=Av8 λ x hx=>h x (by simp[Op.operands,Call.operands,b];exact .inr (by simpa using hx));unfold KL;rw[g,h2,hp]
theorem YM{st st':St}{o:Oper}{K K':St->Prop}(h:∀x∈o.op.operands.toList,ev st' x=ev st x)(hp:st'.hp=st.hp)
   (b:∀y d,K (({st with hp:=y}:St).put o.dst d)->K' (({st' with hp:=y}:St).put o.dst d)) (a:YN P false o K st):YN P false o K' st':=by
 unfold YN at*;split at a
 . rename_i f args e;rw[Aqu e h hp];rcases Rs.Jr a with a | a
   case inr=>exact (BU a.1).elim
   simp only[RH] at a ⊢;exact Rs.Ih (Rs.Dh (λ x hx=>WE (λ d y g=>b y d g) hx) a)
 . rw[UK h hp];rcases Rs.Jr a with a | a
   case inr=>exact (BU a.1).elim
   exact Rs.Ih (Rs.Dh (λ x hx=>b _ _ hx) a)
theorem Bcp{st:St}{o:Oper}{K K':St->Prop}(a:∀s,K s->K' s)(b:YN P false o K st):YN P false o K' st:=
 YM (λ _ _=>rfl) rfl (λ _ _ e=>a _ e) b
theorem Bj5{st st':St}(a:QV st st'){o:Oper}{K:St->Prop}(f:Ab7 K)(i:YN P false o K st):YN P false o K st':=by
 have g:YN P false o K {st' with hp:=st.hp}:=YM (λ x _=>Ali (st':={st' with hp:=st.hp}) ⟨a.n,a.env,λ _=>rfl⟩ x) rfl
   (λ y d b=>f _ _ (QV.put (QV.heap a λ _=>rfl) _ _) b) i
 have hx:HX [] st.hp st'.hp:=λ id=>by rw[a.hp];cases get st.hp id<;>rfl
 have h2:=Bne (env:=st'.env) (n:=st'.n) hx (λ id h=>(h rfl).elim) rfl g;refine Bcp (λ s ⟨y,j,b⟩=>?_) h2;have e:QV {s with hp:=y} s:=by
   refine ⟨rfl,λ _=>rfl,λ id=>?_⟩;have:=j id;simp only[get] at this;rw[this];cases get y id<;>rfl
 exact f _ _ e b
theorem Uf{st st':St}{o:Oper}{K K':St->Prop}(h:∀x∈o.op.operands.toList,ev st' x=ev st x)(hp:st'.hp=st.hp)
   (b:∀y d,K (({st with hp:=y}:St).put o.dst d)->K' (({st' with hp:=y}:St).put o.dst d)) (a:wDq P o K st):wDq P o K' st':=by
 rcases a with a | a
 . exact .inl (YM h hp b a)
 . refine .inr (Afn h (λ id=>by rw[hp]) (λ d e=>?_) (λ t g f d e=>?_) a)
   . have:=b st.hp d e;rw[<-hp] at this;exact this
   . have:=b _ _ e;rw[<-hp] at this;exact this
theorem KS{st:St}{o:Oper}{K K':St->Prop}(a:∀s,K s->K' s)(b:wDq P o K st):wDq P o K' st:=
 Uf (λ _ _=>rfl) rfl (λ _ _ e=>a _ e) b
theorem Aux{st st':St}(a:QV st st'){o:Oper}{K:St->Prop}(f:Ab7 K)(b:wDq P o K st):wDq P o K st':=by
 rcases b with b | b
 . exact .inl (Bj5 a f b)
 . exact .inr (Afn (λ x _=>Ali a x) a.hp (λ d e=>f _ _ (a.put _ _) e) (λ t i g d e=>by
     refine f _ _ (QV.put (st:={st with hp:=(Tq o.dst,AO.arr t i g)::st.hp}) (st':={st' with hp:=(Tq o.dst,AO.arr t i g)::st'.hp}) ⟨a.n,a.env,λ id=>?_⟩ _ _) e;simp only[Dk,a.hp]) b)
theorem Bnc{env:Ar}{n:Nat}{e h h':Hp}(hx:HX e h h')(f:∀id,get e id≠none->id<10000)(g:Mg h){o:Oper}(i:isQ o.op=true)(b:∀x∈o.op.operands.toList,IH h (ev ⟨env,h,n⟩ x)){K:St->Prop}(a:wDq P o K ⟨env,h',n⟩):
   wDq P o (λ st=>(∃Ho,HX e st.hp Ho/\K {st with hp:=Ho})/\Ij (some (o.dst.getD 0)) h st.hp) ⟨env,h,n⟩:=
 a.elim (λ a=> .inl (Bnd hx f g i b a)) λ a=> .inr (Bln hx b a)
end
end Go.Am
namespace Go.Am
open Go
def I0:Ah->Option Av
 | []=>some []
 | .p x::r=>(I0 r).map (x:: ·)
 | .cl a::r=>(I0 r).map (.sl a:: ·)
 | _::_=>none
def Nh(P:AK)(st:St)(q:Nat)(b:Op):Rs (D×AO):=
 match b with
 | .alloc t=>match Dz P t with
   | some a=>match a.zero.stored with
     | some cs=> .ret True (.ptr q 0,.box cs (npT t cs))
     | none=> .fail
   | none=> .fail
 | .box _ x=>match (ev st x).stored with
   | some cs=> .ret True (.ptr q 0,.box cs)
   | none=> .fail
 | .buildSlice t n parts=>if Adf t=true then .fail else match Dz P t with
   | some ⟨_,_,.slice e,_⟩=>match Dz P e with
     | some a=>match J5 (λ i=>some (i*a.size,a.size)) (List.replicate (n*a.size) .bad) (parts.toList.map λ q=>(q.1,ev st q.2)) with
       | some cs=>if Aku a cs=true then .fail else match I0 cs with
         | some y=> .ret (0<a.size/\n*a.size<=16777216) (.ref q 0 n n,.arr e a.size (chunk a.size n y))
         | none=> .fail
       | none=> .fail
     | none=> .fail
   | _=> .fail
 | .makeSlice t l m=>match Dz P t,ev st l,ev st m with
   | some ⟨_,_,.slice e,_⟩,.p (.int _ l),.p (.int _ m)=>match Dz P e with
     | some a=>if (a.k.Bog&&!Adf t)=true then .fail else match I0 a.zero.cells with
       | some y=> .ret (0<a.size/\(0<=l/\l<=m/\m*a.bytes<=140737488355328/\m<=140737488355328)/\a.zero.cells.length=a.size) (.ref q 0 l.toNat l.toNat,.arr e a.size (List.replicate l.toNat y))
       | none=> .fail
     | none=> .fail
   | _,_,_=> .fail
 | _=> .fail
def Gp(P:AK)(l:As)(hR:Hp):Al->(St->Prop)->St->Prop
 | [],K,a=>K a
 | (i,kd)::r,K,a=>match l[i]? with
   | none=>False
   | some o=>IV a l o.guard (match kd with
     | 0=>(Pt P {a with hp:=hR} o).all λ x=>Gp P l hR r K (a.put o.dst x.1)
     | 1=>(Nh P a (o.dst.getD 0) o.op).all λ x=>get a.hp (o.dst.getD 0)=none/\Gp P l hR r K (({a with hp:=(o.dst.getD 0,x.2)::a.hp}:St).put o.dst x.1)
     | 2=>wDq P o (λ s=>KQ s.hp hR/\Gp P l hR r K s) a
     | _=>wDq P o (Gp P l hR r K) a) (Gp P l hR r K (a.put o.dst (.Em [])))
theorem Rs.leaf{α:Type}{k:α->Prop}:∀{r:Rs α},r.all k->∃a,k a/\∀k':α->Prop,k' a->r.all k'
 | .fail,h=>h.elim
 | .ret p a,h=>⟨a,h.2,λ _ f=>⟨h.1,f⟩⟩
 | .split b x y,h=>by
   cases b
   . obtain ⟨a,g,h2⟩:=Rs.leaf (h.2 rfl);exact ⟨a,g,λ k' f=>⟨λ e=>(BU e).elim,λ _=>h2 k' f⟩⟩
   . obtain ⟨a,g,h2⟩:=Rs.leaf (h.1 rfl);exact ⟨a,g,λ k' f=>⟨λ _=>h2 k' f,λ e=>(BU e.symm).elim⟩⟩
theorem KJ(st:St)(l:As)(g:Option (Nat×Bool))(yes no:Prop):IV st l g yes no=match PO st l g with
   | .yes=>yes
   | .no=>no
   | .cond b=>WIf b yes no
   | .bad=>False:=by
 unfold IV PO;cases g with
 | none=>rfl
 | some g=>
   obtain ⟨j,want⟩:=g;simp only;cases ((l[j]?).bind (·.dst)).bind (get st.env) with
   | none=>rfl
   | some d=>cases d with
     | p q=>cases q<;>rfl
     | Em cs=>cases cs<;>rfl
     | _=>rfl
theorem o8{st}{l}{g}{yes no:Prop}(h:IV st l g yes no):
   (yes/\∀(st':St) (y n:Prop),PO st' l g=PO st l g->y->IV st' l g y n)∨(no/\∀(st':St) (y n:Prop),PO st' l g=PO st l g->n->IV st' l g y n):=by
 rw[KJ] at h;cases f:PO st l g with
 | yes=>rw[f] at h;exact .inl ⟨h,λ st' y n e a=>by rw[KJ,e];exact a⟩
 | no=>rw[f] at h;exact .inr ⟨h,λ st' y n e a=>by rw[KJ,e];exact a⟩
 | bad=>rw[f] at h;exact h.elim
 | cond b=>
   rw[f] at h;cases b
   . exact .inr ⟨h.2 rfl,λ st' y n e a=>by rw[KJ,e];exact ⟨λ e=>(BU e).elim,λ _=>a⟩⟩
   . exact .inl ⟨h.1 rfl,λ st' y n e a=>by rw[KJ,e];exact ⟨λ _=>a,λ e=>(BU e.symm).elim⟩⟩
theorem FF{st st'}{l}{g}{yes no Bqr a:Prop}(e:PO st' l g=PO st l g)(i:yes->Bqr)(f:no->a)(h:IV st l g yes no):IV st' l g Bqr a:=by
 rcases o8 h with ⟨b,h2⟩ | ⟨b,h2⟩
 . exact h2 st' _ _ e (i b)
 . exact h2 st' _ _ e (f b)
section
variable {P:AK} {l:As} {hR:Hp}
theorem Bes{st st':St}(h:QV st st')(g:Option (Nat×Bool)):PO st' l g=PO st l g:=by
 unfold PO;have:get st'.env=get st.env:=funext h.env;rw[this]
theorem RQ{st st':St}{q:Nat}{a:Op}(h:∀x∈a.operands.toList,ev st' x=ev st x):Nh P st' q a=Nh P st q a:=by
 unfold Nh;cases a with
 | box t x=>simp only[h x (by simp[Op.operands])]
 | buildSlice t n b=>
   have e:b.toList.map (λ q=>(q.1,ev st' q.2))=b.toList.map (λ q=>(q.1,ev st q.2)):=Aky λ x hx=>h x (by simpa [Op.operands] using hx);simp only[e]
 | makeSlice t l m=>simp only[h l (by simp[Op.operands]),h m (by simp[Op.operands])]
 | _=>rfl
theorem Rm:∀{cs:Ah} {y:Av},I0 cs=some y->∀(h:Hp) (k:Av×Hp->Prop),k (y,h)->(MH h cs).all k
 | [],y,a,h,k,b=>by simp only[I0,Bo] at a;subst a;exact ⟨trivial,b⟩
 | .p x::r,y,a,h,k,b=>by
   simp only[I0,Ct] at a;obtain ⟨z,e,rfl⟩:=a;exact Rs.DS ⟨trivial,Rs.DS (Rm e h _ ⟨trivial,b⟩)⟩
 | .cl f::r,y,a,h,k,b=>by
   simp only[I0,Ct] at a;obtain ⟨z,e,rfl⟩:=a;exact Rs.DS ⟨trivial,Rs.DS (Rm e h _ ⟨trivial,b⟩)⟩
 | .agg _::r,y,a,h,k,b=>by simp[I0] at a
 | .Em _::r,y,a,h,k,b=>by simp[I0] at a
 | .cz _::r,y,a,h,k,b=>by simp[I0] at a
 | .ref _ _ _ _::r,y,a,h,k,b=>by simp[I0] at a
 | .ptr _ _::r,y,a,h,k,b=>by simp[I0] at a
 | .pe _::r,y,a,h,k,b=>by simp[I0] at a
 | .ea _ _ _ _::r,y,a,h,k,b=>by simp[I0] at a
 | .fn _ _::r,y,a,h,k,b=>by simp[I0] at a
 | .np::r,y,a,h,k,b=>by simp[I0] at a
 | .mv _::r,y,a,h,k,b=>by simp[I0] at a
 | .E8 _ _::r,y,a,h,k,b=>by simp[I0] at a
 | .Sn _ _ _::r,y,a,h,k,b=>by simp[I0] at a
 | .nr _ _ _ _::r,y,a,h,k,b=>by simp[I0] at a
 | .WX::r,y,a,h,k,b=>by simp[I0] at a
 | .bad::r,y,a,h,k,b=>by simp[I0] at a
theorem Asv{st:St}{t:AG}{n:Nat}{b:Array (Nat×Operand)}(h:¬Adf t=true):FT st (.buildSlice t n b)=none:=by
 unfold FT;split
 . rename_i heq;cases heq;split
   . rename_i a _;exact (h a).elim
   . rfl
 . rfl
theorem Aji{st:St}{o:Oper}{K:St->Prop}(h:(Nh P st (o.dst.getD 0) o.op).all λ x=>get st.hp (o.dst.getD 0)=none/\K (({st with hp:=(o.dst.getD 0,x.2)::st.hp}:St).put o.dst x.1)):
   EB o.op=none/\Pt P st o=Rv P st (o.dst.getD 0) o.op/\(Rv P st (o.dst.getD 0) o.op).all λ x=>K (({st with hp:=x.2}:St).put o.dst x.1):=by
 unfold Nh at h;unfold Pt EB;split at h
 . rename_i t b;simp only[b,true_and];split at h
   . rename_i e;split at h
     . rename_i h2;simp only[Rv,FT,MN,e,h2];exact ⟨h.2.1,h.2.2⟩
     . exact h.elim
   . exact h.elim
 . rename_i t x b;simp only[b,true_and];split at h
   . rename_i h2;simp only[Rv,FT,MN,h2];exact ⟨h.2.1,h.2.2⟩
   . exact h.elim
 . rename_i t n parts b;simp only[b,true_and];split at h
   . exact h.elim
   rename_i i;simp only[Rv,Asv i];split at h
   . rename_i e;split at h
     . rename_i h2;split at h
       . rename_i f;split at h
         . exact h.elim
         rename_i a;split at h
         . rename_i g;simp only[MN,e,h2,f,if_neg a];exact Rs.DS (Rm g _ _ ⟨⟨h.1.1,h.1.2,h.2.1⟩,h.2.2⟩)
         . exact h.elim
       . exact h.elim
     . exact h.elim
   . exact h.elim
 . rename_i t l m b;simp only[b,true_and];split at h
   . rename_i e h2 f;split at h
     . rename_i g;split at h
       . exact h.elim
       rename_i a;split at h
       . rename_i j;simp only[Rv,FT,MN,e,h2,f,g,if_neg a];exact Rs.DS (Rm j _ _ ⟨⟨h.1.1,h.2.1,h.1.2.1,h.1.2.2⟩,h.2.2⟩)
       . exact h.elim
     . exact h.elim
   . exact h.elim
 . exact h.elim
theorem KQ.congr{h h2:Hp}(b:∀id,get h2 id=get h id):∀{a:Hp},KQ h a->KQ h2 a
 | [],_=>trivial
 | (id,o)::r,e=>⟨by rw[b];exact e.1,KQ.congr b e.2⟩
theorem Mt{K:St->Prop}(f:Ab7 K):∀(r:Al),Ab7 (Gp P l hR r K)
 | []=>f
 | (i,kd)::r=>by
   intro st st' a h;have e:=Mt f r;simp only[Gp] at h ⊢;split at h
   . exact h.elim
   . rename_i o m;(try simp only[m]);refine FF (Bes a _) (λ b=>?_) (λ k=>e _ _ (a.put _ _) k) h;split at b
     . rw[UK (st:={st with hp:=hR}) (st':={st' with hp:=hR}) (λ x _=>Ali (a.heap (x:=hR) (x':=hR) λ _=>rfl) x) rfl];exact Rs.Dh (λ x hx=>e _ _ (a.put _ _) hx) b
     . rw[RQ (st:=st) (λ x _=>Ali a x)];refine Rs.Dh (λ x hx=>⟨by rw[a.hp];exact hx.1,e _ _ (QV.put (a.heap λ id=>?_) _ _) hx.2⟩) b;simp only[Dk,a.hp]
     . exact Aux a (λ s n j g=>⟨g.1.congr j.hp,e _ _ j g.2⟩) b
     . exact Aux a e b
end
end Go.Am
namespace Go.Am
open Go
section
variable {P:AK} {l:As} {hR:Hp}
theorem KQ.hx{h:Hp}(b:KQ h hR):HX h hR h:=by
 intro id;cases a:get hR id with
 | none=>rfl
 | some o=>exact b.spec id o a
theorem Aoe{o:Oper}(a:VC o.op=true):EB o.op=none:=by
 unfold EB;split
 . rename_i c b;rw[b] at a;split
   . rename_i f e;simp[VC,e] at a
   . rfl
 . rfl
theorem Bi1{env:Ar}{n:Nat}{e h h':Hp}(hx:HX e h h'){q:Nat}{b:Builtin}(hb:b≠ .append)(f:b≠ .copy){i:Array TypeId}{args:Ah}{k:D->Prop}(a:(Ie P ⟨env,h,n⟩ q b i args).all (λ x=>k x.1)):
   (Ie P ⟨env,h',n⟩ q b i args).all (λ y=>y.2=h'/\k y.1):=by
 unfold Ie at*;split at a
 . split at a
   . refine Rs.DS (Rs.Dh (λ y g=>?_) (Ava hx (Rs.all_bind a)));exact ⟨g.1,rfl,g.2⟩
   . exact a.elim
 . exact (hb rfl).elim
 . exact (f rfl).elim
 . exact ⟨a.1,rfl,a.2⟩
 . exact ⟨a.1,rfl,a.2⟩
 . exact ⟨a.1,rfl,a.2⟩
 . exact a.elim
theorem doV{env:Ar}{n:Nat}{e h h':Hp}(hx:HX e h h'){o:Oper}(a:VC o.op=true){k:D->Prop}(f:(Pt P ⟨env,h,n⟩ o).all (λ x=>k x.1)):(Pt P ⟨env,h',n⟩ o).all (λ x=>x.2=h'/\k x.1):=by
 have val:∀{op:Op},((NQ P ⟨env,h,n⟩ op).bind λ d=> .ret True (d,h)).all (λ x=>k x.1)->((NQ P ⟨env,h',n⟩ op).bind λ d=> .ret True (d,h')).all (λ x=>x.2=h'/\k x.1):=λ a=>
   Rs.DS (Rs.Dh (λ d i=>⟨i.1,rfl,i.2⟩) (Auy hx (Rs.all_bind a)))
 unfold Pt at*;generalize o.op=op at a f ⊢;cases op with
 | call c=>
   cases g:c.callee with
   | builtin b=>
     simp only[g] at f ⊢;exact Bi1 hx (λ e=>by subst e;simp[VC,g] at a) (λ e=>by subst e;simp[VC,g] at a) f
   | _=>simp only[g] at f;exact f.elim
 | alloc _=>simp[VC] at a
 | box _ _=>simp[VC] at a
 | store _ _ _=>simp[VC] at a
 | buildSlice _ _ _=>simp[VC] at a
 | makeSlice _ _ _=>simp[VC] at a
 | makeMap _ _=>simp[VC] at a
 | mapUpdate _ _ _ _=>simp[VC] at a
 | _=>exact val f
theorem YL{st:St}{o:Oper}{K:St->Prop}(a:EB o.op=none)(h:(Pt P st o).all λ x=>K (({st with hp:=x.2}:St).put o.dst x.1)):YN P false o K st:=by
 unfold YN;rw[a];exact Rs.Ih h
theorem eff{i g:Nat}{r:Al}{K:St->Prop}{st:St}{o:Oper}(u:l[i]?=some o)(S:g=0∨g=1)(B:g=0->VC o.op=true)(h:Gp P l hR ((i,g)::r) K st):
   ∃(e:Hp) (d:D),(e=[]∨(g=1/\∃I,e=[(o.dst.getD 0,I)]))/\(∀x∈e,get st.hp x.1=none)/\Gp P l hR r K (({st with hp:=e++st.hp}:St).put o.dst d)/\
     (∀(s:St) (t:Al) (K':St->Prop),Looks l o st s->(∀x∈e,get s.hp x.1=none)->Gp P l hR t K' (({s with hp:=e++s.hp}:St).put o.dst d)->Gp P l hR ((i,g)::t) K' s)/\
     (∀(c:Ctx) (a:Act) (w:AI) (F:Nat->Prop) (M:Nat->Mb),Rel c st a w F M->(g=0->KQ st.hp hR)->∃H E F' M',Rel c (({st with hp:=e++st.hp}:St).put o.dst d) H E F' M'):=by
 simp only[Gp,u] at h;rcases o8 h with ⟨b,LB⟩ | ⟨T,LB⟩
 . rcases S with rfl | rfl
   . simp only at b;obtain ⟨x,hx,hb⟩:=Rs.leaf b;refine ⟨[],x.1,.inl rfl,(λ y b=>by cases b),hx,λ s t K' f _ q=>?_,λ c a w F M m hle=>?_⟩
     . simp only[Gp,u];refine LB s _ _ f.2 ?_;(try simp only);rw[UK (st:={st with hp:=hR}) (st':={s with hp:=hR}) (λ x hx=>f.1 x hx) rfl];exact hb _ q
     . have z:(Pt P ⟨st.env,hR,st.n⟩ o).all (λ y=>(λ d=>d=x.1) y.1):=hb (λ y=>y.1=x.1) rfl;have h2:=doV (k:=λ d=>d=x.1) (hle rfl).hx (B rfl) z;have Q:YN P false o (λ s=>s=st.put o.dst x.1) st:=YL (Aoe (B rfl)) (Rs.Dh (λ y b=>by
         obtain ⟨j,N⟩:=b;rw[j,N]) h2)
       obtain ⟨d,v,j,p,_⟩:=Axf m (B rfl) Q;have:=m.put p o.dst;rw[j] at this;exact ⟨_,w,F,M,this⟩
   . simp only at b;obtain ⟨x,hx,hb⟩:=Rs.leaf b;refine ⟨[(o.dst.getD 0,x.2)],x.1,.inr ⟨rfl,x.2,rfl⟩,(λ y b=>by simp only[BG] at b;subst b;exact hx.1),hx.2,λ s t K' f R q=>?_,λ c a w F M m _=>?_⟩
     . simp only[Gp,u];refine LB s _ _ f.2 ?_;(try simp only);rw[RQ (st:=st) (λ x hx=>f.1 x hx)];exact hb _ ⟨R (o.dst.getD 0,x.2) AT,q⟩
     . obtain ⟨_,_,z⟩:=Aji (K:=λ s=>s=({st with hp:=(o.dst.getD 0,x.2)::st.hp}:St).put o.dst x.1) (hb (λ y=>get st.hp (o.dst.getD 0)=none/\({st with hp:=(o.dst.getD 0,y.2)::st.hp}:St).put o.dst y.1=({st with hp:=(o.dst.getD 0,x.2)::st.hp}:St).put o.dst x.1) ⟨hx.1,rfl⟩);obtain ⟨d,U,v,E,F',M',j,Qr,_,p,_⟩:=JD m (o:=o) (k:=λ d h=>({st with hp:=h}:St).put o.dst d=({st with hp:=(o.dst.getD 0,x.2)::st.hp}:St).put o.dst x.1) (MM z);have:=Qr.put p o.dst;(try simp only at j);rw[j] at this;exact ⟨_,E,F',M',this⟩
 . refine ⟨[],.Em [],.inl rfl,(λ y b=>by cases b),T,λ s t K' f _ q=>?_,λ c a w F M m _=>?_⟩
   . simp only[Gp,u];exact LB s _ _ f.2 q
   . exact ⟨_,w,F,M,m.put (.Em [] #[] rfl (λ i d p=>by simp at p)) o.dst⟩
end
end Go.Am
namespace Go.Am
open Go
structure Ap(l:As)(x y:Oper):Prop where
 a:∀d,x.dst=some d->d∉y.looksAt l.toArray
 b:∀d,x.dst=some d->y.dst≠some d
 c:∀d,y.dst=some d->d∉x.looksAt l.toArray
section
variable {P:AK} {l:As} {hR:Hp}
theorem IS{o:Oper}{st:St}{t:Option Nat}{d:D}{h:Hp}(a:∀q,t=some q->q∉o.looksAt l.toArray):Looks l o st (({st with hp:=h}:St).put t d):=by
 refine ⟨λ x hx=>?_,?_⟩
 . cases x with
   | tmp q=>
     simp only[ev,Lg];rw[if_neg];rintro ⟨e,_⟩;refine a q e ?_;unfold Oper.looksAt;exact CB _ (List.mem_filterMap.2 ⟨.tmp q,hx,rfl⟩)
   | _=>rfl
 . unfold PO;cases b:o.guard with
   | none=>rfl
   | some g=>
     obtain ⟨j,want⟩:=g;simp only;cases f:(l[j]?).bind (·.dst) with
     | none=>rfl
     | some q=>
       have:get (({st with hp:=h}:St).put t d).env q=get st.env q:=by
         rw[Lg,if_neg];rintro ⟨e,_⟩;refine a q e ?_;unfold Oper.looksAt;refine List.mem_append_right _ ?_;rw[b];simp[f]
       simp only[Bd,this]
theorem Looks.trans{o:Oper}{a b c:St}(h:Looks l o a b)(h':Looks l o b c):Looks l o a c:=⟨λ x hx=>(h'.1 x hx).trans (h.1 x hx),h'.2.trans h.2⟩
theorem Looks.heap{o:Oper}{a b:St}(h:Looks l o a b)(x y:Hp):Looks l o {a with hp:=x} {b with hp:=y}:=by
 refine ⟨λ z e=>?_,?_⟩
 . have:=h.1 z e;cases z<;>exact this
 . exact h.2
theorem Abg{st:St}{e:Hp}{t u:Option Nat}{d x:D}(EH:∀q,t=some q->u≠some q):
   QV ((({st with hp:=e++st.hp}:St).put t d).put u x) (({(st.put u x) with hp:=e++(st.put u x).hp}:St).put t d):=by
 have a:QV ((({st with hp:=e++st.hp}:St).put t d).put u x) ((({st with hp:=e++st.hp}:St).put u x).put t d):=QV.swap EH;refine a.trans (QV.put ?_ _ _);refine ⟨by simp only[Oc],λ q=>?_,λ id=>?_⟩
 . simp only[Lg]
 . simp only[E1]
theorem Bly{K:St->Prop}(p:Ab7 K){j:Nat}{f:Oper}(q:l[j]?=some f)(post:Al):∀(pre:Al) {st:St},Gp P l hR (pre++(j,0)::post) K st->
   (∀x∈pre,(x.2=0∨x.2=1)/\∃k,l[x.1]?=some k/\(x.2=0->VC k.op=true)/\Ap l k f)->
   IV st l f.guard ((Pt P {st with hp:=hR} f).all λ x=>Gp P l hR (pre++post) K (st.put f.dst x.1)) (Gp P l hR (pre++post) K (st.put f.dst (.Em [])))
 | [],st,h,_=>by
   simp only[CK,Gp,q] at h;exact h
 | (i,ki)::pre,st,h,hp=>by
   obtain ⟨t,k,v,w,g⟩:=hp (i,ki) AT;obtain ⟨e,d,B,r,s,LB,_⟩:=eff v t w h;have z:=Bly p q post pre s (λ x hx=>hp x (by simp[hx]));have m:Looks l f st (({st with hp:=e++st.hp}:St).put k.dst d):=IS g.a;have o:∀x:D,Gp P l hR (pre++post) K ((({st with hp:=e++st.hp}:St).put k.dst d).put f.dst x)->Gp P l hR ((i,ki)::(pre++post)) K (st.put f.dst x):=by
     intro x hx;refine LB _ _ _ (IS (h:=st.hp) g.c) (λ y n=>by rw[E1];exact r y n) (Mt p _ _ _ (Abg g.b) hx)
   refine FF m.2.symm (λ n=>?_) (λ u=>o _ u) z;rw[UK (st:={st with hp:=hR}) (λ x hx=>(m.heap hR hR).1 x hx) rfl] at n;exact Rs.Dh (λ x hx=>o _ hx) n
theorem Blz{K:St->Prop}(t:Ab7 K){j:Nat}{f:Oper}(w:l[j]?=some f)(post:Al):∀(pre:Al) {st:St},Gp P l hR (pre++(j,1)::post) K st->
   (∀x∈pre,(x.2=0∨x.2=1)/\∃m,l[x.1]?=some m/\(x.2=0->VC m.op=true)/\Ap l m f/\(x.2=1->m.dst.getD 0≠f.dst.getD 0))->
   IV st l f.guard ((Nh P st (f.dst.getD 0) f.op).all λ x=>get st.hp (f.dst.getD 0)=none/\Gp P l hR (pre++post) K (({st with hp:=(f.dst.getD 0,x.2)::st.hp}:St).put f.dst x.1)) (Gp P l hR (pre++post) K (st.put f.dst (.Em [])))
 | [],st,h,_=>by
   simp only[CK,Gp,w] at h;exact h
 | (i,ki)::pre,st,h,hp=>by
   obtain ⟨E,m,I,N,g,Bkc⟩:=hp (i,ki) AT;obtain ⟨e,d,u,v,B,LB,_⟩:=eff I E N h;have Q:=Blz t w post pre B (λ x hx=>hp x (by simp[hx]));have o:Looks l f st (({st with hp:=e++st.hp}:St).put m.dst d):=IS g.a;have Bef:∀y∈e,y.1≠f.dst.getD 0:=by
     intro y k;rcases u with rfl | ⟨n,p,rfl⟩
     . cases k
     . simp only[BG] at k;subst k;exact Bkc n
   refine FF o.2.symm (λ k=>?_) (λ H=>?_) Q
   . rw[RQ (st:=st) (λ x hx=>o.1 x hx)] at k;refine Rs.Dh (λ x hx=>?_) k;obtain ⟨n,h2⟩:=hx;rw[E1] at n;simp only at n;have At8:get st.hp (f.dst.getD 0)=none:=by
       rcases u with rfl | ⟨_,p,rfl⟩
       . exact n
       . simp only[List.singleton_append,Dk] at n;rw[if_neg (Bef (m.dst.getD 0,p) AT)] at n;exact n
     refine ⟨At8,?_⟩;refine LB _ _ _ ((IS (h:=(f.dst.getD 0,x.2)::st.hp) g.c)) (λ y k=>?_) ?_
     . rw[E1];simp only[Dk];rw[if_neg (λ r=>Bef y k r.symm)];exact v y k
     . refine Mt t _ _ _ ?_ h2;have z:=Abg (st:={st with hp:=(f.dst.getD 0,x.2)::st.hp}) (e:=e) (d:=d) (x:=x.1) g.b;refine QV.trans ?_ z;refine ⟨by simp only[Oc],λ q=>by simp only[Lg,Oc],λ id=>?_⟩;simp only[E1];rcases u with rfl | ⟨_,p,rfl⟩
       . rfl
       . simp only[List.singleton_append,Dk];by_cases s:m.dst.getD 0=id
         . by_cases r:f.dst.getD 0=id
           . exact (Bef (m.dst.getD 0,p) AT (s.trans r.symm)).elim
           . simp[s,r]
         . simp[s]
   . refine LB _ _ _ (IS (h:=st.hp) g.c) (λ y k=>by rw[E1];exact v y k) (Mt t _ _ _ (Abg g.b) H)
end
end Go.Am
namespace Go.Am
open Go
theorem Tu:∀{cs:Ah} {id:Nat},id∈Fe cs->∃(i:Nat) (c:D),cs[i]?=some c/\id∈c.ids
 | [],id,h=>by simp[Fe] at h
 | d::r,id,h=>by
   simp only[Fe,BD] at h;rcases h with h | h
   . exact ⟨0,d,rfl,h⟩
   . obtain ⟨i,c,a,h2⟩:=Tu h;exact ⟨i+1,c,by simpa using a,h2⟩
theorem DR.Bjl{F:Nat->Prop}{w}{M}{s}{d}{v}(h:DR F w M s d v):∀id∈d.ids,s id≠none:=by
 induction h with
 | p _=>intro id e;simp[D.ids] at e
 | agg cs t r _ l=>intro id e;obtain ⟨i,c,j,h2⟩:=Tu e;exact l i c j id h2
 | Em cs t r _ l=>intro id e;obtain ⟨i,c,j,h2⟩:=Tu e;exact l i c j id h2
 | cl u a _ _=>intro id e;simp[D.ids] at e
 | cz u a _=>intro id e;simp[D.ids] at e
 | ref id off len N o n v g _ _ _=>intro i e;simp only[D.ids,BG] at e;subst e;rw[g];simp
 | ptr id off g=>intro i e;simp only[D.ids,BG] at e;subst e;rw[g];simp
 | pe _ _ _ _ _ _ _ _ _ _=>intro id e;simp[D.ids] at e
 | ea id i c N o n v g _ _ _=>intro i e;simp only[D.ids,BG] at e;subst e;rw[g];simp
 | fn f cap t r _ l=>intro id e;obtain ⟨i,c,j,h2⟩:=Tu e;exact l i c j id h2
 | WX _ _=>intro id e;simp[D.ids] at e
 | bad _=>intro id e;simp[D.ids] at e
 | np=>intro id e;simp[D.ids] at e
 | mv id g=>intro i e;simp only[D.ids,BG] at e;subst e;rw[g];simp
 | E8 id n o m k v g _ _ _=>intro i e;simp only[D.ids,BG] at e;subst e;rw[g];simp
 | Sn id i n o m k b g _ _ _=>intro i e;simp only[D.ids,BG] at e;subst e;rw[g];simp
 | nr id i n q o m k v g _ _ _=>intro i e;simp only[D.ids,BG] at e;subst e;rw[g];simp
section
variable {P:AK} {l:As} {hR:Hp}
theorem Aki{h:Hp}{id:Nat}:sg h id≠none->get h id≠none:=by
 intro b a;exact b (by simp[sg,a])
theorem Rel.nod{c:Ctx}{st:St}{a:Act}{w:AI}{F:Nat->Prop}{M:Nat->Mb}(f:Rel c st a w F M):Mg st.hp/\∀x,IH st.hp (ev st x):=by
 refine ⟨λ id o n i b=>?_,λ x id b=>Aki ((Dj f x).Bjl id b)⟩;have e:=f.heap.obj id o n;cases o with
 | box cs r=>
   obtain ⟨_,row,t,_,_,m⟩:=e;obtain ⟨j,c,g,h2⟩:=Tu (cs:=cs) b;exact Aki ((m.1 j c g).1.Bjl i h2)
 | YH t q p i c d=>
   obtain ⟨row,_,_,_,k,_⟩:=RT.row e;exact Aki (k.Bjl _ b)
 | _=>simp[AO.ids] at b
theorem KQ.app{h e:Hp}(f:e=[]∨∃x,e=[x])(g:∀x∈e,get h x.1=none):∀{b:Hp},KQ h b->KQ (e++h) b
 | [],_=>trivial
 | (id,o)::r,a=>by
   refine ⟨?_,KQ.app f g a.2⟩;rcases f with rfl | ⟨x,rfl⟩
   . exact a.1
   . simp only[List.singleton_append];rw[Dk,if_neg]
     . exact a.1
     . intro i;have:=g x AT;rw[i,a.1] at this;cases this
theorem KQ.Bls{h e y:Hp}(hx:HX e y h)(m:∀x∈e,get y x.1=none)(f:e=[]∨∃x,e=[x]){st:Hp}(j:∀x∈e,get st x.1=none):∀{a:Hp},KQ st a->KQ h a->KQ y a
 | [],_,_=>trivial
 | (id,o)::r,b,i=>by
   refine ⟨?_,KQ.Bls hx m f j b.2 i.2⟩;have a:=i.1;rw[hx] at a;cases g:get y id with
   | some n=>rw[g] at a;exact a
   | none=>
     rw[g] at a;simp only at a;rcases f with rfl | ⟨x,rfl⟩
     . cases a
     . rw[Dk] at a;split at a
       . rename_i k;have:=j x AT;rw[k,b.1] at this;cases this
       . cases a
theorem HX.app{h e:Hp}(a:e=[]∨∃x,e=[x])(b:∀x∈e,get h x.1=none):HX e h (e++h):=by
 rcases a with rfl | ⟨⟨q,o⟩,rfl⟩
 . exact HX.refl h
 . exact HX.one (b (q,o) AT)
theorem HX.Lh{h y e:Hp}(hx:HX e h y)(b:e=[]∨∃x,e=[x])(f:∀x∈e,get h x.1=none)(id:Nat):get (e++h) id=get y id:=by
 rw[hx];rcases b with rfl | ⟨x,rfl⟩
 . simp only[CK];cases get h id<;>rfl
 . simp only[List.singleton_append];rw[Dk];by_cases a:x.1=id
   . have:=f x AT;rw[a] at this;rw[if_pos a,this];simp[get,a]
   . rw[if_neg a];cases g:get h id with
     | none=>simp[get,a]
     | some o=>rfl
theorem Bdb{K:St->Prop}(S:Ab7 K){c:Ctx}{j B:Nat}{m:Oper}(hj:l[j]?=some m)(I:B=2∨B=3)(hq:isQ m.op=true)(post:Al):
   ∀(pre:Al) {st:St} {a:Act} {w:AI} {F:Nat->Prop} {M:Nat->Mb},Rel c st a w F M->Gp P l hR (pre++(j,B)::post) K st->(B=2∨(∃x∈pre,x.2=0)->KQ st.hp hR)->
   (∀x∈pre,(x.2=0∨x.2=1)/\∃f,l[x.1]?=some f/\(x.2=0->VC f.op=true)/\Ap l f m/\(x.2=1->f.dst.getD 0≠m.dst.getD 0/\f.dst.getD 0<10000))->
   IV st l m.guard (wDq P m (λ s=>(B=2->KQ s.hp hR)/\Gp P l hR (pre++post) K s) st) (Gp P l hR (pre++post) K (st.put m.dst (.Em [])))
 | [],st,a,w,F,M,hr,h,hle,_=>by
   simp only[CK,Gp,hj] at h;refine FF rfl (λ v=>?_) id h;rcases I with rfl | rfl
   . exact KS (λ s T=>⟨λ _=>T.1,T.2⟩) v
   . exact KS (λ s T=>⟨λ e=>(by cases e),T⟩) v
 | (i,ki)::pre,st,a,w,F,M,hr,h,hle,hp=>by
   obtain ⟨u,f,ho,hv,k,Bkc⟩:=hp (i,ki) AT;obtain ⟨e,d,V,H,hg,LB,Al6⟩:=eff ho u hv h;have p:e=[]∨∃x,e=[x]:=by
     rcases V with g | ⟨_,U,g⟩
     . exact .inl g
     . exact .inr ⟨_,g⟩
   obtain ⟨a1,w1,F1,M1,KI⟩:=Al6 c a w F M hr (λ e0=>hle (.inr ⟨(i,ki),AT,e0⟩));have ih:=Bdb S hj I hq post pre KI hg (λ hh=>by
     rw[E1];refine KQ.app p H (hle ?_);rcases hh with g | ⟨x,hx,a0⟩
     . exact .inl g
     . exact .inr ⟨x,by simp[hx],a0⟩) (λ x hx=>hp x (by simp[hx]))
   have N:Looks l m st (({st with hp:=e++st.hp}:St).put f.dst d):=IS k.a;refine FF N.2.symm (λ v=>?_) (λ hn=>?_) ih
   . have g:wDq P m (λ s=>(B=2->KQ s.hp hR)/\Gp P l hR (pre++post) K (s.put f.dst d)) {st with hp:=e++st.hp}:=by
       refine Uf (λ x hx=>(N.1 x hx).symm) (by rw[E1]) (λ y x u=>?_) v;refine ⟨λ R=>by have:=u.1 R;simp only[E1] at this ⊢;exact this,?_⟩;refine Mt S _ _ _ ?_ u.2;have h2:QV ((({st with hp:=y}:St).put f.dst d).put m.dst x) ((({st with hp:=y}:St).put m.dst x).put f.dst d):=QV.swap k.b;refine QV.trans ?_ h2;refine ⟨by simp only[Oc],λ q=>by simp only[Lg,Oc],λ id=>by simp only[E1]⟩
     obtain ⟨XM,Z⟩:=hr.nod;have W:∀id,get e id≠none->id<10000:=by
       intro id hid;rcases V with g | ⟨t,U,g⟩
       . subst g;exact (hid rfl).elim
       . subst g;rw[Dk] at hid;split at hid
         . rename_i e1;subst e1;exact (Bkc t).2
         . exact (hid rfl).elim
     have h2:=Bnc (env:=st.env) (n:=st.n) (HX.app p H) W XM hq (λ x _=>Z x) g;refine Uf (st:=st) (λ _ _=>rfl) rfl (λ y x u=>?_) h2;obtain ⟨⟨Ho,MR,Bp2,Tw⟩,PL⟩:=u;rw[E1] at MR PL;simp only at MR PL;have r:∀z∈e,get y z.1=none:=by
       intro z Q;cases Y:get y z.1 with
       | none=>rfl
       | some o=>
         exfalso;rcases V with rfl | ⟨t,U,rfl⟩
         . cases Q
         . simp only[BG] at Q;subst Q;obtain ⟨Sr,JT⟩:=Bkc t;rcases PL (f.dst.getD 0) (by rw[Y];simp) with E | E | E
           . exact E (H (f.dst.getD 0,U) AT)
           . exact Sr (Bf E)
           . exact absurd JT (Nat.not_lt.2 E)
     refine ⟨λ R=>by
       rw[E1];exact KQ.Bls MR r p H (hle (.inl R)) (Bp2 R),?_⟩
     refine LB _ _ _ (IS (h:=y) k.c) (λ z Q=>by rw[E1];exact r z Q) ?_;refine Mt S _ _ _ (QV.put ?_ _ _) Tw;refine ⟨rfl,λ _=>rfl,λ id=>?_⟩;simp only[E1];exact HX.Lh MR p r id
   . refine LB _ _ _ (IS (h:=st.hp) k.c) (λ y v=>by rw[E1];exact H y v) (Mt S _ _ _ (Abg k.b) hn)
end
end Go.Am
namespace Go.Am
open Go
def waits(o:Oper)(i:Nat):Bool:=o.after.toList.any λ e=>Region.binds .any e&&e.on==i
def XN:Op->Bool
 | .move _ | .assign _ | .binOp _ _ _ _ _ | .unOp _ _ _ | .extract _ _=>true
 | _=>false
theorem Bb6{P}{env}{n}{h h'}{o}(b:XN o.op=true){k:D->Prop}(a:(Pt P ⟨env,h,n⟩ o).all (λ x=>k x.1)):(Pt P ⟨env,h',n⟩ o).all (λ x=>x.2=h'/\k x.1):=by
 have val:∀{op:Op},NQ P ⟨env,h',n⟩ op=NQ P ⟨env,h,n⟩ op->((NQ P ⟨env,h,n⟩ op).bind λ d=> .ret True (d,h)).all (λ x=>k x.1)->((NQ P ⟨env,h',n⟩ op).bind λ d=> .ret True (d,h')).all (λ x=>x.2=h'/\k x.1):=λ e b=>by
   rw[e];exact Rs.DS (Rs.Dh (λ d f=>⟨f.1,rfl,f.2⟩) (Rs.all_bind b))
 unfold Pt at*;generalize o.op=op at b a ⊢;cases op with
 | move _=>exact val rfl a
 | assign _=>exact val rfl a
 | binOp _ _ _ _ _=>exact val rfl a
 | unOp _ _ _=>exact val rfl a
 | extract _ _=>exact val rfl a
 | _=>simp[XN] at b
def Y5(l:As)(x:Nat×Nat):Prop:=(x.2=0/\∀o,l[x.1]?=some o->XN o.op=false)∨x.2=2
theorem Blx{P}{l}{hR}{K:St->Prop}(p:Ab7 K){j}{f}(s:l[j]?=some f)(post):∀(pre:Al) {st:St},Gp P l hR (pre++(j,4)::post) K st->
   (∀x∈pre,x.2=0/\∃g,l[x.1]?=some g/\VC g.op=true/\Ap l g f)->
   IV st l f.guard (wDq P f (Gp P l hR (pre++post) K) st) (Gp P l hR (pre++post) K (st.put f.dst (.Em [])))
 | [],st,h,_=>by
   simp only[CK,Gp,s] at h;exact h
 | (i,ki)::pre,st,h,hp=>by
   obtain ⟨m,g,w,B,k⟩:=hp (i,ki) AT;obtain ⟨e,d,t,N,u,LB,_⟩:=eff w (.inl m) (λ _=>B) h;obtain rfl:e=[]:=by
     rcases t with o | ⟨o,_⟩
     . exact o
     . simp only at m;rw[m] at o;cases o
   have I:=Blx p s post pre u (λ x hx=>hp x (by simp[hx]));have n:Looks l f st (({st with hp:=[]++st.hp}:St).put g.dst d):=IS k.a;have r:∀(y:Hp) (x:D),Gp P l hR (pre++post) K ((({st with hp:=y}:St).put g.dst d).put f.dst x)->Gp P l hR ((i,ki)::(pre++post)) K (({st with hp:=y}:St).put f.dst x):=by
     intro y x hx;refine LB _ _ _ (IS (h:=y) k.c) (λ z H=>by cases H) (Mt p _ _ _ ?_ hx);have h2:QV ((({st with hp:=y}:St).put g.dst d).put f.dst x) ((({st with hp:=y}:St).put f.dst x).put g.dst d):=QV.swap k.b;refine h2.trans ?_;refine ⟨by simp only[Oc],λ q=>by simp only[Lg,Oc],λ id=>by simp only[E1,CK]⟩
   refine FF n.2.symm (λ E=>?_) (λ v=>?_) I
   . refine Uf (λ x hx=>(n.1 x hx).symm) (by rw[E1];rfl) (λ y x m=>?_) E;refine r y x (Mt p _ _ _ ?_ m);refine ⟨by simp only[Oc],λ q=>by simp only[Lg,Oc],λ id=>by simp only[E1]⟩
   . exact r st.hp (.Em []) (Mt p _ _ _ ⟨by simp only[Oc],λ q=>by simp only[Lg,Oc,CK],λ id=>by simp only[E1,CK]⟩ v)
def Akd(l:As):Nat->Nat->Nat->Bool
 | 0,_,_=>false
 | f+1,i,j=>match l[j]? with
   | some a=>a.after.toList.any λ e=>Region.binds .any e&&(e.on==i||Akd l f i e.on)
   | none=>false
def Z5(l:As)(n:Nat)(x y:Nat×Nat):Bool:=
 match l[x.1]?,l[y.1]? with
 | some a,some b=>!waits a y.1&&
   (if y.2=4 then Akd l n x.1 y.1||(decide (x.2=0)&&XN a.op&&VC a.op&&Oper.apart l.toArray a b) else if x.2<=1 then (waits b x.1||(Oper.apart l.toArray a b&&(x.2 != 1||(a.dst.getD 0 != b.dst.getD 0&&decide (a.dst.getD 0<10000)))))&&(!(y.2==3&&x.2==0)||Akd l n x.1 y.1)
    else Akd l n x.1 y.1&&!((x.2==3||x.2==4)&&(y.2==0||y.2==2)))
 | _,_=>false
def opB(l:As)(x:Nat×Nat):Bool:=
 match l[x.1]? with
 | some o=>(match x.2 with
     | 0=>VC o.op
     | 1=>true
     | 2 | 3=>isQ o.op
     | 4=>true
     | _=>false)&&!waits o x.1&&o.after.toList.all λ e=>!Region.binds .any e||decide (e.on<l.length)
 | none=>false
def L2(l:As)(n:Nat):Al->Bool
 | []=>true
 | x::r=>r.all (Z5 l n x)&&L2 l n r
def Bjt:Aq->Bool
 | []=>true
 | x::r=>r.all (λ y=>x != y)&&Bjt r
theorem Ahr:∀{l:Aq},Bjt l=true->l.Nodup
 | [],_=>List.nodup_nil
 | x::r,h=>by
   simp only[Bjt,BA] at h;refine List.nodup_cons.2 ⟨λ a=>?_,Ahr h.2⟩;have:=BB.1 h.1 x a;simp at this
def R5(l:As)(p:Al):Bool:=
 Bjt (p.map (·.1))&&L2 l l.length p&&p.all (opB l)&&p.length==l.length&&(List.range l.length).all λ i=>p.any λ x=>x.1==i
section
variable {P:AK} {l:As} {hR:Hp}
theorem Wa{n:Nat}{y:Nat×Nat}{post:Al}:∀{pre:Al},L2 l n (pre++y::post)=true->∀x∈pre,Z5 l n x y=true
 | [],_,x,hx=>by cases hx
 | z::pre,h,x,hx=>by
   simp only[CD,L2,BA] at h;rcases BX.1 hx with rfl | hx
   . exact BB.1 h.1 y AT
   . exact Wa h.2 x hx
theorem Tj{n:Nat}{y:Nat×Nat}{post:Al}:∀{pre:Al},L2 l n (pre++y::post)=true->∀x∈post,Z5 l n y x=true
 | [],h,x,hx=>by
   simp only[CK,L2,BA] at h;exact BB.1 h.1 x hx
 | z::pre,h,x,hx=>by
   simp only[CD,L2,BA] at h;exact Tj h.2 x hx
theorem Z4{n:Nat}{y:Nat×Nat}{post:Al}:∀{pre:Al},L2 l n (pre++y::post)=true->L2 l n (pre++post)=true
 | [],h=>by
   simp only[CK,L2,BA] at h;exact h.2
 | z::pre,h=>by
   simp only[CD,L2,BA] at h ⊢;refine ⟨BB.2 λ x hx=>?_,Z4 h.2⟩;refine BB.1 h.1 x ?_;rcases BD.1 hx with a | a
   . exact CB _ a
   . exact List.mem_append_right _ (List.mem_cons_of_mem _ a)
def Down(l:As)(listed:Array Bool):Prop:=∀k a,l[k]?=some a->listed.getD k false=true->∀e∈a.after,Region.binds .any e=true->listed.getD e.on false=true
theorem S3{listed:Array Bool}(k:Down l listed):∀(f i j:Nat) (b:Oper),l[j]?=some b->(∀e∈b.after,Region.binds .any e=true->listed.getD e.on false=true)->Akd l f i j=true->listed.getD i false=true
 | 0,i,j,b,_,_,h=>by simp[Akd] at h
 | f+1,i,j,b,p,Fx,h=>by
   simp only[Akd,p,Cb,BA,Bool.or_eq_true,beq_iff_eq] at h;obtain ⟨e,o,hb,a⟩:=h;have m:=Fx e (by simpa using o) hb;rcases a with rfl | a
   . exact m
   . cases g:l[e.on]? with
     | none=>cases f<;>simp[Akd,g] at a
     | some n=>exact S3 k f i e.on n g (k e.on n g m) a
theorem Abp{o:Oper}{i:Nat}:waits o i=true↔∃e∈o.after,Region.binds .any e=true/\e.on=i:=by
 simp only[waits,Cb,BA,beq_iff_eq];constructor
 . rintro ⟨e,b,a,h2⟩;exact ⟨e,by simpa using b,a,h2⟩
 . rintro ⟨e,b,a,h2⟩;exact ⟨e,by simpa using b,a,h2⟩
theorem Ai3{listed:Array Bool}{i:Nat}(h:listed.getD i true=false):listed.getD i false=false:=by
 rw[Bs] at*;cases a:listed[i]? with
 | none=>rfl
 | some b=>rw[a] at h;exact h
structure Inv(l:As)(rest:Al)(listed:Array Bool):Prop where
 iff:∀k,k<l.length->(listed.getD k true=false↔∃x∈rest,x.1=k)
 sz:listed.size=l.length
 down:Down l listed
 Ahm:L2 l l.length rest=true
 ops:rest.all (opB l)=true
 len:∀x∈rest,x.1<l.length
theorem Bqa{K:St->Prop}(hK:Ab7 K){c:Ctx}{Q:Exit->Act->World->Prop}(hQ:∀a w,Good c K a w->Q .normal a w):∀(fuel:Nat) {rest:Al} {listed:Array Bool} {st:St} {a:Act} {w:AI} {F:Nat->Prop} {M:Nat->Mb},
   rest.length=fuel->(rest.map (·.1)).Nodup->Rel c st a w F M->Gp P l hR rest K st->((∃x∈rest,Y5 l x)->KQ st.hp hR)->Inv l rest listed->wpAny P .any l.toArray Q fuel listed a w:=by
 intro fuel
 induction fuel with
 | zero=>
   intro rest listed st a w F M hlen T V B hle f;obtain rfl:rest=[]:=BZ hlen;refine ⟨?_,hQ _ _ ⟨st,F,M,B,V⟩⟩;refine List.eq_nil_iff_forall_not_mem.2 λ j hj=>?_;obtain ⟨h0,q,E,_⟩:=mem_ready.1 hj;have Dv:j<l.length:=by have:=(Array.getElem?_eq_some_iff.1 E).1;simpa using this
   obtain ⟨x,hx,_⟩:=(f.iff j Dv).1 h0;cases hx
 | succ fuel ih=>
   intro rest listed st a w F M hlen T V B hle f;refine ⟨λ Bzn=>?_,λ j hj=>?_⟩
   . exfalso;cases rest with
     | nil=>cases hlen
     | cons x r=>
       have a1:x.1∈Region.ready .any l.toArray listed:=by
         have Dv:=f.len x AT;refine mem_ready.2 ⟨(f.iff x.1 Dv).2 ⟨x,AT,rfl⟩,l[x.1],by simp[Dv],λ e R hb=>?_⟩;have Q0:opB l x=true:=BB.1 f.ops x AT;have n:l[x.1]?=some l[x.1]:=Bp Dv;simp only[opB,n,BA,BB,Bool.or_eq_true,Bool.not_eq_true',BM] at Q0;have Bt2:=(Q0.2 e (by simpa using R)).resolve_left (by rw[hb];simp);cases hle:listed.getD e.on true with
         | true=>
           rw[Bs] at hle ⊢;have:e.on<listed.size:=by rw[f.sz];exact Bt2
           rw[BV this] at hle ⊢;exact hle
         | false=>
           exfalso;obtain ⟨y,p,W⟩:=(f.iff e.on Bt2).1 hle;have N:waits l[x.1] y.1=true:=Abp.2 ⟨e,R,hb,W.symm⟩;rcases BX.1 p with rfl | p
           . rw[N] at Q0;simp at Q0
           . have hp:=f.Ahm;simp only[L2,BA] at hp;have:=BB.1 hp.1 y p;unfold Z5 at this;rw[n] at this;split at this
             . rename_i ox oy g h2;cases g;rw[N] at this;simp at this
             . cases this
       rw[Bzn] at a1;cases a1
   . obtain ⟨h0,q,E,Fx⟩:=mem_ready.1 hj;have Dv:j<l.length:=by have:=(Array.getElem?_eq_some_iff.1 E).1;simpa using this
     have U1:l[j]?=some q:=by simpa using E
     obtain ⟨x,hx,rfl⟩:=(f.iff j Dv).1 h0;obtain ⟨j,kj⟩:=x;obtain ⟨pre,post,rfl⟩:=List.append_of_mem hx;simp only at E U1 h0 Fx Dv hj ⊢;have XK:∀x∈pre,x.2<=1/\∃m,l[x.1]?=some m/\(x.2=0->VC m.op=true)/\Ap l m q/\(x.2=1->m.dst.getD 0≠q.dst.getD 0/\m.dst.getD 0<10000)/\¬(kj=3/\x.2=0):=by
       intro x hx;have hp:=Wa f.Ahm x hx;have Axm:x∈pre++(j,kj)::post:=by simp[hx]
       have H:=f.len x Axm;have I:listed.getD x.1 false=false:=Ai3 ((f.iff x.1 H).2 ⟨x,Axm,rfl⟩);have n:l[x.1]?=some l[x.1]:=Bp H;have Q0:opB l x=true:=BB.1 f.ops x Axm;have U:Akd l l.length x.1 j≠true:=λ ht=>by
         have:=S3 f.down _ _ _ q U1 Fx ht;rw[I] at this;cases this
       have a8:waits q x.1≠true:=λ N=>by
         obtain ⟨e,R,hb,W⟩:=Abp.1 N;have:=Fx e R hb;rw[W,I] at this;cases this
       unfold Z5 at hp;rw[n,U1] at hp;simp only[BA] at hp;obtain ⟨_,hp⟩:=hp;split at hp
       . rename_i v;simp only[Bool.or_eq_true,BA,BM] at hp;rcases hp with hp | ⟨⟨⟨g,h2⟩,t⟩,h5⟩
         . exact (U hp).elim
         . obtain ⟨s1,s2,s3⟩:=Oper.apart_spec h5;exact ⟨AQ,l[x.1],n,λ _=>t,⟨s1,s2,s3⟩,λ h=>AQ,λ ⟨h,_⟩=>AQ⟩
       split at hp
       . rename_i Bp2;simp only[BA,Bool.or_eq_true] at hp;obtain ⟨VF,a9⟩:=hp;have VF:=VF.resolve_left a8;obtain ⟨s1,s2,s3⟩:=Oper.apart_spec VF.1;refine ⟨Bp2,l[x.1],n,λ Z=>?_,⟨s1,s2,s3⟩,λ g=>?_,λ ⟨t,Z⟩=>?_⟩
         . simp only[opB,n,Z,BA] at Q0;exact Q0.1.1
         . have:=VF.2.resolve_left (by simp[g])
           simpa using this
         . exact U (a9.resolve_left (by simp[t,Z]))
       . simp only[BA] at hp;exact (U hp.1).elim
     have XL:opB l (j,kj)=true:=BB.1 f.ops _ AT;have Bss:((pre++post).map (·.1)).Nodup/\∀x∈pre++post,x.1≠j:=by
       rw[List.map_append,B0] at T;obtain ⟨g,h2,t⟩:=List.nodup_append.1 T;obtain ⟨v,h5⟩:=List.nodup_cons.1 h2;refine ⟨?_,λ x hx e=>?_⟩
       . rw[List.map_append];exact List.nodup_append.2 ⟨g,h5,λ a ha b hb=>t a ha b (List.mem_cons_of_mem _ hb)⟩
       . rcases BD.1 hx with h6 | h6
         . exact t x.1 (List.mem_map_of_mem h6) j AT e
         . exact v (by simp only;rw[<-e];exact List.mem_map_of_mem h6)
     have a7:Inv l (pre++post) (listed.setIfInBounds j true):=by
       refine ⟨λ k hk=>?_,by simp[f.sz],?_,Z4 f.Ahm,?_,λ x hx=>f.len x (by rcases BD.1 hx with h | h<;>simp[h])⟩
       . by_cases e:j=k
         . subst e;have:(listed.setIfInBounds j true).getD j true=true:=by
             rw[Bs,Array.getElem?_setIfInBounds];simp[f.sz,Dv]
           rw[this];refine ⟨λ h=>(by cases h),λ ⟨x,hx,u⟩=>(Bss.2 x hx u).elim⟩
         . rw[getD_set_ne true e,f.iff k hk];constructor
           . rintro ⟨x,hx,u⟩;rcases BD.1 hx with h | h
             . exact ⟨x,CB _ h,u⟩
             . rcases BX.1 h with rfl | h
               . exact (e u).elim
               . exact ⟨x,List.mem_append_right _ h,u⟩
           . rintro ⟨x,hx,u⟩;exact ⟨x,by rcases BD.1 hx with h | h<;>simp[h],u⟩
       . intro k ok hk a2 e R hb;by_cases ee:j=k
         . subst ee;rw[U1] at hk;cases hk;exact getD_set_true (Fx e R hb)
         . rw[getD_set_ne false ee] at a2;exact getD_set_true (f.down k ok hk a2 e R hb)
       . refine BB.2 λ x hx=>BB.1 f.ops x ?_;rcases BD.1 hx with h | h<;>simp[h]
     have Bsu:(pre++post).length=fuel:=by simp at hlen ⊢;omega
     have next:∀{s a' w' F' M'},Rel c s a' w' F' M'->Gp P l hR (pre++post) K s->((∃x∈pre++post,Y5 l x)->KQ s.hp hR)->wpAny P .any l.toArray Q fuel (listed.setIfInBounds j true) a' w':=
       λ Qr a4 Bsv=>ih Bsu Bss.1 Qr a4 Bsv a7
     have OZ:(∃x∈pre++post,Y5 l x)->KQ st.hp hR:=λ ⟨x,hx,h2⟩=>hle ⟨x,by rcases BD.1 hx with h | h<;>simp[h],h2⟩;have main:IV st l q.guard (wDq P q (λ s=>((∃x∈pre++post,Y5 l x)->KQ s.hp hR)/\Gp P l hR (pre++post) K s) st) (Gp P l hR (pre++post) K (st.put q.dst (.Em []))):=by
       have two:∀x∈pre,x.2=0∨x.2=1:=λ x hx=>by have:=(XK x hx).1;omega
       match kj,B,hle,XK,XL,f with
       | 0,B,hle,XK,XL,f=>
         have g:=Bly hK U1 post pre B (λ x hx=>⟨two x hx,by obtain ⟨_,m,g,h2,t,_⟩:=XK x hx;exact ⟨m,g,h2,t⟩⟩);have hv:VC q.op=true:=by simp only[opB,U1,BA] at XL;exact XL.1.1
         refine FF rfl (λ p=>?_) id g;have h2:(Pt P st q).all (λ x=>x.2=st.hp/\Gp P l hR (pre++post) K (st.put q.dst x.1)):=by
           by_cases a3:XN q.op=true
           . exact Bb6 (k:=λ d=>Gp P l hR (pre++post) K (st.put q.dst d)) a3 p
           . have hl:=hle ⟨(j,0),AT,.inl ⟨rfl,λ o ho=>by rw[U1] at ho;cases ho;simpa using a3⟩⟩;exact doV (k:=λ d=>Gp P l hR (pre++post) K (st.put q.dst d)) hl.hx hv p
         exact .inl <| YL (Aoe hv) (Rs.Dh (λ x hx=>by
           obtain ⟨e1,e2⟩:=hx;rw[e1];exact ⟨λ S=>by rw[E1];exact OZ S,e2⟩) h2)
       | 1,B,hle,XK,XL,f=>
         have g:=Blz hK U1 post pre B (λ x hx=>⟨two x hx,by obtain ⟨_,m,g,h2,t,v,_⟩:=XK x hx;exact ⟨m,g,h2,t,λ e=>(v e).1⟩⟩);refine FF rfl (λ p=>?_) id g;obtain ⟨x,hx,hb⟩:=Rs.leaf p;obtain ⟨h2,t,v⟩:=Aji (K:=λ s=>((∃x∈pre++post,Y5 l x)->KQ s.hp hR)/\Gp P l hR (pre++post) K s) (Rs.Dh (λ y p=>⟨p.1,λ S=>by
           rw[E1];exact KQ.app (.inr ⟨_,rfl⟩) (λ z Z=>by simp only[BG] at Z;subst Z;exact p.1) (OZ S),p.2⟩) p)
         exact .inl <| YL h2 (by rw[t];exact v)
       | 2,B,hle,XK,XL,f=>
         have hq:isQ q.op=true:=by simp only[opB,U1,BA] at XL;exact XL.1.1
         have g:=Bdb hK U1 (.inl rfl) hq post pre V B (λ _=>hle ⟨(j,2),AT,.inr rfl⟩) (λ x hx=>⟨two x hx,by obtain ⟨_,m,g,h2,t,v,_⟩:=XK x hx;exact ⟨m,g,h2,t,v⟩⟩);exact FF rfl (λ p=>KS (λ s Y=>⟨λ _=>Y.1 rfl,Y.2⟩) p) id g
       | 3,B,hle,XK,XL,f=>
         have hq:isQ q.op=true:=by simp only[opB,U1,BA] at XL;exact XL.1.1
         have XM:∀x∈pre++post,¬(x.2=0∨x.2=2):=by
           intro x hx h2;rcases BD.1 hx with h | h
           . obtain ⟨t,m,_,_,_,_,v⟩:=XK x h;rcases h2 with h2 | h2
             . exact v ⟨rfl,h2⟩
             . omega
           . have hp:=Tj f.Ahm x h;unfold Z5 at hp;split at hp
             . rw[if_neg AQ,if_neg AT] at hp;rcases h2 with h2 | h2<;>simp[h2] at hp
             . cases hp
         have g:=Bdb hK U1 (.inr rfl) hq post pre V B (λ S=>by
           rcases S with h | ⟨x,hx,h2⟩
           . cases h
           . exact (XM x (CB _ hx) (.inl h2)).elim) (λ x hx=>⟨two x hx,by obtain ⟨_,m,g,h2,t,v,_⟩:=XK x hx;exact ⟨m,g,h2,t,v⟩⟩)
         exact FF rfl (λ p=>KS (λ s Y=>⟨λ ⟨x,hx,h2⟩=>(XM x hx (h2.imp And.left id)).elim,Y.2⟩) p) id g
       | 4,B,hle,XK,XL,f=>
         have a0:∀x∈pre,x.2=0/\∃m,l[x.1]?=some m/\VC m.op=true/\Ap l m q/\XN m.op=true:=by
           intro x hx;have hp:=Wa f.Ahm x hx;have Axm:x∈pre++(j,4)::post:=by simp[hx]
           have H:=f.len x Axm;have I:listed.getD x.1 false=false:=Ai3 ((f.iff x.1 H).2 ⟨x,Axm,rfl⟩);have n:l[x.1]?=some l[x.1]:=Bp H;unfold Z5 at hp;rw[n,U1] at hp;simp only[Cf,BA,Bool.or_eq_true,BM] at hp;rcases hp.2 with h | ⟨⟨⟨g,h2⟩,t⟩,h5⟩
           . have:=S3 f.down _ _ _ q U1 Fx h;rw[I] at this;cases this
           . obtain ⟨s1,s2,s3⟩:=Oper.apart_spec h5;exact ⟨g,l[x.1],n,t,⟨s1,s2,s3⟩,h2⟩
         have XM:∀x∈pre++post,¬Y5 l x:=by
           intro x hx h2;rcases BD.1 hx with h | h
           . obtain ⟨g1,m,g2,_,_,g3⟩:=a0 x h;rcases h2 with ⟨_,h2⟩ | h2
             . have:=h2 m g2;rw[g3] at this;cases this
             . omega
           . have hp:=Tj f.Ahm x h;unfold Z5 at hp;split at hp
             . rename_i ox oy e1 e2;by_cases v:x.2=4
               . rcases h2 with ⟨h2,_⟩ | h2<;>omega
               . rw[if_neg v,if_neg AT] at hp;rcases h2 with ⟨h2,_⟩ | h2<;>simp[h2] at hp
             . cases hp
         have g:=Blx hK U1 post pre B (λ x hx=>by obtain ⟨g1,m,g2,g3,g4,_⟩:=a0 x hx;exact ⟨g1,m,g2,g3,g4⟩);exact FF rfl (λ p=>KS (λ s Y=>⟨λ ⟨x,hx,h2⟩=>(XM x hx h2).elim,Y⟩) p) id g
       | kj+5,B,hle,XK,XL,f=>simp[opB,U1] at XL
     unfold wpOp;rw[E];simp only;have a6:=n9 (ops:=l.toArray) V main;rcases a6 with ⟨N,p⟩ | ⟨N,hn⟩
     . rw[if_pos N];refine .inl (Oper.wp_mono (λ a' w' a5=>?_) (Awe V p Q));obtain ⟨s,F',M',⟨g,h2⟩,Qr⟩:=a5;exact next Qr h2 g
     . rw[if_neg (by rw[N];simp)];exact next (V.put (.Em [] #[] rfl (λ i d hd=>by simp at hd)) q.dst) hn (λ S=>by rw[E1];exact OZ S)
end
end Go.Am
namespace Go.Am
open Go
section
variable {P:AK} {l:As} {hR:Hp}
theorem UO{K K':St->Prop}(a:∀s,K s->K' s):∀(r:Al) {st:St},Gp P l hR r K st->Gp P l hR r K' st
 | [],st,h=>a _ h
 | (i,kd)::r,st,h=>by
   simp only[Gp] at h ⊢;split at h
   . exact h.elim
   . rename_i o g;(try simp only[g]);refine FF rfl (λ b=>?_) (λ f=>UO a r f) h;split at b
     . exact Rs.Dh (λ x hx=>UO a r hx) b
     . exact Rs.Dh (λ x hx=>⟨hx.1,UO a r hx.2⟩) b
     . exact KS (λ s e=>⟨e.1,UO a r e.2⟩) b
     . exact KS (λ s e=>UO a r e) b
def wDg(P:AK)(o:Oper)(K:St->Prop)(st:St):Prop:=
 match EB o.op with
 | some (f,args)=>(KL st f args).OM (Afo P o K st) λ x=>RI (Afo P o K st) P x.2.2 x.1 x.2.1 (o.dst.getD 0) λ d a=>K (({st with hp:=a}:St).put o.dst d)
 | none=>(Pt P st o).all λ x=>K (({st with hp:=x.2}:St).put o.dst x.1)
theorem Rs.Ub{α:Type}{S T:Prop}{k k':α->Prop}(f:∀x,k x->k' x∨T)(a:S->T):∀{r:Rs α},r.OM S k->r.all k'∨T
 | .fail,h=> .inr (a h)
 | .ret p x,h=>(f x h.2).elim (λ h2=> .inl ⟨h.1,h2⟩) .inr
 | .split b x y,h=>by
   cases b
   . exact (Rs.Ub f a (h.2 rfl)).elim (λ h2=> .inl ⟨λ e=>(BU e).elim,λ _=>h2⟩) .inr
   . exact (Rs.Ub f a (h.1 rfl)).elim (λ h2=> .inl ⟨λ _=>h2,λ e=>(BU e.symm).elim⟩) .inr
theorem Blr{o:Oper}{K:St->Prop}{st:St}(h:wDg P o K st):wDq P o K st:=by
 unfold wDg at h;unfold wDq YN;split at h
 . rename_i f args a;(try simp only[a]);refine (Rs.Ub (k':=λ x:FuncId×Ah×Hp=>LD P x.2.2 x.1 x.2.1 (o.dst.getD 0) λ d b=>K (({st with hp:=b}:St).put o.dst d)) (λ x hx=>Zz hx) id h).imp (λ h2=>?_) id;exact Rs.Ih (Rs.Dh (λ x hx=>Ajh hx) h2)
 . rename_i a;(try simp only[a]);exact .inl (Rs.Ih h)
def Gw(P:AK)(l:As)(hR:Hp):Al->(St->Prop)->St->Prop
 | [],K,a=>K a
 | (i,kd)::r,K,a=>match l[i]? with
   | none=>False
   | some o=>IV a l o.guard (match kd with
     | 0=>(Pt P {a with hp:=hR} o).all λ x=>Gw P l hR r K (a.put o.dst x.1)
     | 1=>(Nh P a (o.dst.getD 0) o.op).all λ x=>get a.hp (o.dst.getD 0)=none/\Gw P l hR r K (({a with hp:=(o.dst.getD 0,x.2)::a.hp}:St).put o.dst x.1)
     | 2=>wDg P o (λ s=>KQ s.hp hR/\Gw P l hR r K s) a
     | _=>wDg P o (Gw P l hR r K) a) (Gw P l hR r K (a.put o.dst (.Em [])))
theorem Ajp{K:St->Prop}:∀(r:Al) {st:St},Gw P l hR r K st->Gp P l hR r K st
 | [],st,h=>h
 | (i,e)::r,st,h=>by
   simp only[Gw] at h;simp only[Gp];split at h
   . exact h.elim
   . rename_i o g;(try simp only[g]);refine FF rfl (λ a=>?_) (λ f=>Ajp r f) h
     match e,a with
     | 0,a=>exact Rs.Dh (λ x hx=>Ajp r hx) a
     | 1,a=>exact Rs.Dh (λ x hx=>⟨hx.1,Ajp r hx.2⟩) a
     | 2,a=>exact KS (λ s b=>⟨b.1,Ajp r b.2⟩) (Blr a)
     | e+3,a=>exact KS (λ s b=>Ajp r b) (Blr a)
def G(P:AK)(l:As)(hR:Hp)(r:Al)(k:Kt)(st:St):Prop:=Gw P l hR r (k.Ik P .normal) st
theorem Ax0{p:Al}(h:R5 l p=true):(p.map (·.1)).Nodup/\p.length=l.length/\Inv l p (Array.replicate l.length false):=by
 simp only[R5,BA,beq_iff_eq] at h;obtain ⟨⟨⟨⟨g,j⟩,h2⟩,m⟩,n⟩:=h;have hlen:∀x∈p,x.1<l.length:=by
   intro x hx;have:=BB.1 h2 x hx;unfold opB at this;split at this
   . rename_i o r;exact (Bn.1 r).1
   . cases this
 have OZ:List.range l.length ⊆ p.map (·.1):=by
   intro i q;have:=BB.1 n i q;obtain ⟨x,hx,a⟩:=Cb.1 this;exact List.mem_map.2 ⟨x,hx,by simpa using a⟩
 have f:=Ahr g;refine ⟨f,m,⟨λ k b=>?_,AT,λ k s b e=>?_,j,h2,hlen⟩⟩
 . rw[Bs,Array.getElem?_replicate,if_pos b];refine ⟨λ _=>?_,λ _=>rfl⟩;obtain ⟨x,hx,a⟩:=BR.1 (OZ (List.mem_range.2 b));exact ⟨x,hx,a⟩
 . exfalso;rw[Bs,Array.getElem?_replicate] at e;split at e<;>simp at e
theorem Yu{id:Nat}{p:Al}{k:Kt}{st:St}(hR:Hp)(n:P.follows .mixedOrders=true)(f:R5 l p=true)(hle:KQ st.hp hR)(h:G P l hR p k st):X P (.region id l.toArray true) k st:=by
 refine .inr ⟨rfl,λ c a w F M e=>?_⟩;obtain ⟨b,m,i⟩:=Ax0 f;refine wp_region_any n ?_;have JH:Rel c st a {w with drawn:=w.drawn+1} F M:=e.drew;have:=Bqa (P:=P) (l:=l) (hR:=hR) (Ab7.of (k.Ik P .normal)) (c:=c) (Q:=QC c (k.Ik P)) (λ a w ⟨s,F,M,⟨q,g,j⟩,e⟩=>⟨q,F,M,j,e.eqv g⟩) l.length m b JH
   (UO (λ s o=>⟨s,QV.refl s,o⟩) p (Ajp p h)) (λ _=>hle) i
 simpa using this
end
def Hd(a:Nat)(h hR:Hp):Prop:=match a with
 | 2=>KQ h hR
 | _=>True
theorem Bq7(h hR):Hd 2 h hR=KQ h hR:=nd rfl
theorem Biq(h hR):Hd 3 h hR=True:=nd rfl
def Gf(P:AK)(l:As)(hR:Hp)(r:Al)(k:Kt)(o:Oper)(st:St)(x:Rs (D×Hp)):Prop:=x.all λ x=>G P l hR r k (st.put o.dst x.1)
def Ga(P:AK)(l:As)(hR:Hp)(r:Al)(k:Kt)(o:Oper)(st:St)(x:Rs (D×AO)):Prop:=
 x.all λ x=>get st.hp (o.dst.getD 0)=none/\G P l hR r k (({st with hp:=(o.dst.getD 0,x.2)::st.hp}:St).put o.dst x.1)
def Gs(P:AK)(l:As)(hR:Hp)(r:Al)(k:Kt)(a:Nat)(o:Oper)(st:St)(x:Rs (D×Hp)):Prop:=
 x.all λ x=>Hd a x.2 hR/\G P l hR r k (({st with hp:=x.2}:St).put o.dst x.1)
def Bq(P:AK)(l:As)(hR:Hp)(r:Al)(k:Kt)(a:Nat)(o:Oper)(st:St):Prop:=Afo P o (λ s=>Hd a s.hp hR/\G P l hR r k s) st
def Gc(P:AK)(l:As)(hR:Hp)(r:Al)(k:Kt)(a:Nat)(o:Oper)(st:St)(x:Rs (FuncId×Ah×Hp)):Prop:=
 x.OM (Bq P l hR r k a o st) λ x=>RI (Bq P l hR r k a o st) P x.2.2 x.1 x.2.1 (o.dst.getD 0) λ d b=>Hd a b hR/\G P l hR r k (({st with hp:=b}:St).put o.dst d)
def Gk(P:AK)(l:As)(hR:Hp)(r:Al)(k:Kt)(b:Nat)(dst:Option Nat)(st:St)(f:AH)(ds:Ah)(h:Hp)(T:Aq)(S:Prop):Prop:=
 (C4 P f (Nd (idx T base) ds) (sub h (idx T base) base T) λ a x=>fresh (dst.getD 0) h a/\Hd b (merge T (dst.getD 0) h a) hR/\G P l hR r k (({st with hp:=merge T (dst.getD 0) h a}:St).put dst (x.GB (back T (dst.getD 0)))))∨S
def Ge(P:AK)(l:As)(hR:Hp)(r:Al)(k:Kt)(o:Oper)(st:St):Nat->Prop
 | 0=>Gf P l hR r k o st (Pt P {st with hp:=hR} o)
 | 1=>Ga P l hR r k o st (Nh P st (o.dst.getD 0) o.op)
 | 2=>match EB o.op with
   | some (f,args)=>Gc P l hR r k 2 o st (KL st f args)
   | none=>Gs P l hR r k 2 o st (Pt P st o)
 | _=>match EB o.op with
   | some (f,args)=>Gc P l hR r k 3 o st (KL st f args)
   | none=>Gs P l hR r k 3 o st (Pt P st o)
def Gd(P:AK)(l:As)(hR:Hp)(r:Al)(k:Kt)(a:Nat)(o:Oper)(st:St):Gv->Prop
 | .yes=>Ge P l hR r k o st a
 | .no=>G P l hR r k (st.put o.dst (.Em []))
 | .cond b=>WIf b (Ge P l hR r k o st a) (G P l hR r k (st.put o.dst (.Em [])))
 | .bad=>False
def Gg(P:AK)(l:As)(hR:Hp)(r:Al)(k:Kt)(a:Nat)(st:St):Option Oper->Prop
 | none=>False
 | some o=>Gd P l hR r k a o st (PO st l o.guard)
section
variable {P:AK} {l:As} {hR:Hp} {r:Al} {k:Kt} {o:Oper} {st:St} {kd:Nat} {b:Bool} {dst:Option Nat}
theorem Amp{f:AM}{args:AD}{K:St->Prop}(a:EB o.op=some (f,args)):wDg P o K st=(KL st f args).OM (Afo P o K st) λ x=>RI (Afo P o K st) P x.2.2 x.1 x.2.1 (o.dst.getD 0) λ d h'=>K (({st with hp:=h'}:St).put o.dst d):=by
 unfold wDg;rw[a]
theorem Amo{K:St->Prop}(a:EB o.op=none):wDg P o K st=(Pt P st o).all λ x=>K (({st with hp:=x.2}:St).put o.dst x.1):=by
 unfold wDg;rw[a]
theorem Bui:G P l hR [] k st=J P k .normal st:=nd rfl
theorem Bqi(i:Nat):G P l hR ((i,kd)::r) k st=Gg P l hR r k kd st l[i]?:=by
 unfold G;simp only[Gw];cases l[i]? with
 | none=>rfl
 | some o=>
   simp only[Gg];rw[KJ];have e:(match kd with
     | 0=>(Pt P {st with hp:=hR} o).all λ x=>Gw P l hR r (k.Ik P .normal) (st.put o.dst x.1)
     | 1=>(Nh P st (o.dst.getD 0) o.op).all λ x=>get st.hp (o.dst.getD 0)=none/\Gw P l hR r (k.Ik P .normal) (({st with hp:=(o.dst.getD 0,x.2)::st.hp}:St).put o.dst x.1)
     | 2=>wDg P o (λ s=>KQ s.hp hR/\Gw P l hR r (k.Ik P .normal) s) st
     | _=>wDg P o (Gw P l hR r (k.Ik P .normal)) st)=Ge P l hR r k o st kd:=by
     match kd with
     | 0=>rfl
     | 1=>rfl
     | 2=>
       simp only[Ge];cases a:EB o.op with
       | none=>simp only[Amo a,E1];rfl
       | some x=>obtain ⟨f,args⟩:=x;simp only[Amp a,Gc,Bq,Hd,E1];rfl
     | kd+3=>
       simp only[Ge];cases a:EB o.op with
       | none=>simp only[Amo a,Gs,Hd,true_and];rfl
       | some x=>obtain ⟨f,args⟩:=x;simp only[Amp a,Gc,Bq,Hd,true_and];rfl
   cases PO st l o.guard with
   | yes=>exact e
   | no=>rfl
   | bad=>rfl
   | cond b=>exact B3 (λ x=>WIf b x (Gw P l hR r (k.Ik P .normal) (st.put o.dst (.Em [])))) e
theorem Blb:Gg P l hR r k kd st (some o)=Gd P l hR r k kd o st (PO st l o.guard):=nd rfl
theorem Bqf:Gd P l hR r k kd o st .yes=Ge P l hR r k o st kd:=nd rfl
theorem Buh:Gd P l hR r k kd o st .no=G P l hR r k (st.put o.dst (.Em [])):=nd rfl
theorem Blf:Gd P l hR r k kd o st (.cond true)=Ge P l hR r k o st kd:=by simp[Gd]
theorem Biu:Gd P l hR r k kd o st (.cond false)=G P l hR r k (st.put o.dst (.Em [])):=by simp[Gd]
theorem Bld:Ge P l hR r k o st 0=Gf P l hR r k o st (Pt P {st with hp:=hR} o):=nd rfl
theorem Bqe:Ge P l hR r k o st 1=Ga P l hR r k o st (Nh P st (o.dst.getD 0) o.op):=nd rfl
theorem Bqd:Ge P l hR r k o st 2=match EB o.op with
   | some (f,args)=>Gc P l hR r k 2 o st (KL st f args)
   | none=>Gs P l hR r k 2 o st (Pt P st o):=nd rfl
theorem Bit:Ge P l hR r k o st 3=match EB o.op with
   | some (f,args)=>Gc P l hR r k 3 o st (KL st f args)
   | none=>Gs P l hR r k 3 o st (Pt P st o):=nd rfl
theorem Ble:Ge P l hR r k o st 4=match EB o.op with
   | some (f,args)=>Gc P l hR r k 3 o st (KL st f args)
   | none=>Gs P l hR r k 3 o st (Pt P st o):=nd rfl
theorem Bqc(p:Prop)(d:D)(h:Hp):Gf P l hR r k o st (.ret p (d,h))=(p/\G P l hR r k (st.put o.dst d)):=nd rfl
theorem Blc(x y:Rs (D×Hp)):Gf P l hR r k o st (.split true x y)=Gf P l hR r k o st x:=by simp[Gf,Rs.all]
theorem Bis(x y:Rs (D×Hp)):Gf P l hR r k o st (.split false x y)=Gf P l hR r k o st y:=by simp[Gf,Rs.all]
theorem Bqh(p:Prop)(d:D)(a:AO):Ga P l hR r k o st (.ret p (d,a))=(p/\get st.hp (o.dst.getD 0)=none/\G P l hR r k (({st with hp:=(o.dst.getD 0,a)::st.hp}:St).put o.dst d)):=nd rfl
theorem Bq9(p:Prop)(d:D)(h:Hp):Gs P l hR r k kd o st (.ret p (d,h))=(p/\Hd kd h hR/\G P l hR r k (({st with hp:=h}:St).put o.dst d)):=nd rfl
theorem Bqg(p:Prop)(f:AH)(ds:Ah)(h:Hp):Gc P l hR r k kd o st (.ret p (f,ds,h))=
   (p/\(F3 h (Fe ds)).Nodup/\((F3 h (Fe ds)).all λ id=>(get h id).isSome)=true/\Gk P l hR r k kd o.dst st f ds h (F3 h (Fe ds)) (Bq P l hR r k kd o st)):=nd rfl
end
def Cc(P:AK)(s:Bool)(ops rest:As)(k:Kt)(dst:Option Nat)(st:St)(h:Hp)(T:Aq)(f:AH)(ds:Ah)(b:Hp)(S:Prop):Prop:=
 (C4 P f ds b λ a r=>fresh (dst.getD 0) h a/\O P s ops rest k (({st with hp:=merge T (dst.getD 0) h a}:St).put dst (r.GB (back T (dst.getD 0)))))∨S
theorem Bum(P)(s)(ops rest)(k)(dst)(st)(f)(ds)(h)(T)(S:Prop):
   Ck P s ops rest k dst st f ds h T S=Cc P s ops rest k dst st h T f (Nd (idx T base) ds) (sub h (idx T base) base T) S:=nd rfl
theorem GJ{P}{s}{ops rest}{k}{dst}{st}{h}{T}{f}{ds}{a}{S:Prop}{R:Hp->D->Prop}(b:C4 P f ds a R)
   (e:∀h' r,R h' r->fresh (dst.getD 0) h h'/\O P s ops rest k (({st with hp:=merge T (dst.getD 0) h h'}:St).put dst (r.GB (back T (dst.getD 0))))):Cc P s ops rest k dst st h T f ds a S:= .inl (b.mono e)
def Kc(P:AK)(f:AH)(ds:Ah)(b h:Hp)(T:Aq)(q:Nat)(k:D->Hp->Prop):Prop:=C4 P f ds b λ a r=>fresh q h a/\k (r.GB (back T q)) (merge T q h a)
theorem Bue{P}{f}{ds}{a h}{T}{q}{k:D->Hp->Prop}{R:Hp->D->Prop}(b:C4 P f ds a R)
   (e:∀h' r,R h' r->fresh q h h'/\k (r.GB (back T q)) (merge T q h h')):Kc P f ds a h T q k:=b.mono e
theorem Bhz(P)(h)(f)(ds)(q)(k:D->Hp->Prop):
   LD P h f ds q k=((F3 h (Fe ds)).Nodup/\((F3 h (Fe ds)).all λ id=>(get h id).isSome)=true/\
     Kc P f (Nd (idx (F3 h (Fe ds)) base) ds) (sub h (idx (F3 h (Fe ds)) base) base (F3 h (Fe ds))) h (F3 h (Fe ds)) q k):=nd rfl
theorem Bqm{P}{ops rest}{k}{dst}{st}{h}{T}{f}{ds}{m}{o}{b}{args}{g}{cap}
   (e:EB o.op=some (b,args)) (i:ev st b= .fn g cap) (j:LD P st.hp g (args.map (ev st)++cap) (o.dst.getD 0) λ d h'=>O P true ops rest k (({st with hp:=h'}:St).put o.dst d)):
   Cc P true ops rest k dst st h T f ds m (Sm P true ops rest k o st):=by
 refine .inr ⟨rfl,λ c a w F M Q l=>?_⟩;exact Ax2 l e i j Q
def Gh(P:AK)(l:As)(hR:Hp)(r:Al)(k:Kt)(e:Nat)(dst:Option Nat)(st:St)(h:Hp)(T:Aq)(f:AH)(ds:Ah)(b:Hp)(S:Prop):Prop:=
 (C4 P f ds b λ a x=>fresh (dst.getD 0) h a/\Hd e (merge T (dst.getD 0) h a) hR/\G P l hR r k (({st with hp:=merge T (dst.getD 0) h a}:St).put dst (x.GB (back T (dst.getD 0)))))∨S
theorem Bug(P)(l)(hR)(r)(k)(kd)(dst)(st)(f)(ds)(h)(T)(S:Prop):
   Gk P l hR r k kd dst st f ds h T S=Gh P l hR r k kd dst st h T f (Nd (idx T base) ds) (sub h (idx T base) base T) S:=nd rfl
theorem Aw1{P}{l}{hR}{r}{k}{b}{dst}{st}{h}{T}{f}{ds}{a}{S:Prop}{R:Hp->D->Prop}(e:C4 P f ds a R)
   (g:∀h' x,R h' x->fresh (dst.getD 0) h h'/\Hd b (merge T (dst.getD 0) h h') hR/\G P l hR r k (({st with hp:=merge T (dst.getD 0) h h'}:St).put dst (x.GB (back T (dst.getD 0))))):Gh P l hR r k b dst st h T f ds a S:= .inl (e.mono g)
theorem Bun{P}{l}{hR}{r}{k}{b}{o}{st}{a}{args}{g}{cap ds}{R:Hp->D->Prop}
   (p:EB o.op=some (a,args)) (m:ev st a= .fn g cap) (j:C4 P g ds [] R) (hb:OQ st.hp (args.map (ev st)++cap) ds)
   (n:∀h x,R h x->h=[]/\x.flat=true/\Hd b st.hp hR/\G P l hR r k (st.put o.dst x)):Bq P l hR r k b o st:=
 ⟨a,args,g,cap,ds,p,m,hb,j.mono λ h x hx=>by
   obtain ⟨e,h2,f,i⟩:=n h x hx;exact .inl ⟨e,by rw[E1];exact f,by rw[Acd h2];exact i⟩⟩
theorem Bqb{P}{l}{hR}{r}{k}{a}{o}{st}{b}{args}{g}{cap ds}{R:Hp->D->Prop}{dst}{h}{T}{e}{YG}{n}{st'}
   (m:EB o.op=some (b,args)) (i:ev st b= .fn g cap) (f:C4 P g ds [] R) (hb:OQ st.hp (args.map (ev st)++cap) ds)
   (j:∀h x,R h x->h=[]/\x.flat=true/\Hd a st.hp hR/\G P l hR r k (st.put o.dst x)):Gh P l hR r k a dst st' h T e YG n (Bq P l hR r k a o st):= .inr (Bun m i f hb j)
theorem Bq1{P}{ops rest}{k}{st}{o}{b}{args}{g}{cap ds}{R:Hp->D->Prop}
   (m:EB o.op=some (b,args)) (j:ev st b= .fn g cap) (i:C4 P g ds [] R) (hb:OQ st.hp (args.map (ev st)++cap) ds)
   (l:∀h x,R h x->h=[]/\x.flat=true/\O P true ops rest k (st.put o.dst x)):Sm P true ops rest k o st:=
 ⟨rfl,λ c a w F M Q n=>RR n ⟨b,args,g,cap,ds,m,j,hb,i.mono λ h x hx=>by
   obtain ⟨e,h2,f⟩:=l h x hx;exact .inl ⟨e,by rw[Acd h2];exact f⟩⟩ Q⟩
theorem Blj{P}{ops rest}{k}{dst}{st st'}{h}{T}{e}{YG}{n}{o}{b}{args}{g}{cap ds}{R:Hp->D->Prop}
   (l:EB o.op=some (b,args)) (i:ev st b= .fn g cap) (f:C4 P g ds [] R) (hb:OQ st.hp (args.map (ev st)++cap) ds)
   (j:∀h x,R h x->h=[]/\O P true ops rest k (st.put o.dst x.Lw)):Cc P true ops rest k dst st' h T e YG n (Sm P true ops rest k o st):=
 .inr ⟨rfl,λ c a w F M Q m=>RR m ⟨b,args,g,cap,ds,l,i,hb,f.mono λ h x hx=> .inl (j h x hx)⟩ Q⟩
theorem Bqn{P}{ops rest}{k}{dst}{st st'}{h}{T}{b}{YG}{l}{o}{a}{args}{g}{cap ds}{R:Hp->D->Prop}
   (j:EB o.op=some (a,args)) (f:ev st a= .fn g cap) (e:C4 P g ds [] R) (hb:OQ st.hp (args.map (ev st)++cap) ds)
   (i:∀h x,R h x->h=[]/\x.flat=true/\O P true ops rest k (st.put o.dst x)):Cc P true ops rest k dst st' h T b YG l (Sm P true ops rest k o st):= .inr (Bq1 j f e hb i)
theorem Am7{P}{l}{hR}{r}{k}{b}{o}{st}{a}{args}{g}{cap ds}{R:Hp->D->Prop}{dst}{h}{T}{f}{YG}{v}{st'}
   (u:EB o.op=some (a,args)) (q:ev st a= .fn g cap) (p:C4 P g ds [] R) (hb:OQ st.hp (args.map (ev st)++cap) ds)
   (s:∀h x,R h x->∃t sz es,h=[(0,.arr t sz es)]/\(∀e∈es,∀c∈e,c.flat=true)/\get st.hp (Tq o.dst)=none/\Hd b ((Tq o.dst,.arr t sz es)::st.hp) hR/\G P l hR r k (st.made o.dst (.arr t sz es) x)):Gh P l hR r k b dst st' h T f YG v (Bq P l hR r k b o st):=
 .inr ⟨a,args,g,cap,ds,u,q,hb,p.mono λ h x hx=>by
   obtain ⟨t,sz,es,i,h2,j,m,n⟩:=s h x hx;exact .inr ⟨t,sz,es,i,h2,j,by simp only[St.made,E1];exact m,n⟩⟩
theorem Aw2{P}{ops rest}{k}{dst}{st st'}{h}{T}{f}{YG}{p}{o}{b}{args}{g}{cap ds}{R:Hp->D->Prop}
   (m:EB o.op=some (b,args)) (j:ev st b= .fn g cap) (i:C4 P g ds [] R) (hb:OQ st.hp (args.map (ev st)++cap) ds)
   (l:∀h x,R h x->∃t sz es,h=[(0,.arr t sz es)]/\(∀e∈es,∀c∈e,c.flat=true)/\get st.hp (Tq o.dst)=none/\O P true ops rest k (st.made o.dst (.arr t sz es) x)):Cc P true ops rest k dst st' h T f YG p (Sm P true ops rest k o st):=
 .inr ⟨rfl,λ c a w F M Q n=>RR n ⟨b,args,g,cap,ds,m,j,hb,i.mono λ h x hx=> .inr (l h x hx)⟩ Q⟩
attribute [go_sem] Rt Bum Bug base AO.GB fresh merge back UW pick List.filter_cons List.filter_nil List.mem_cons List.not_mem_nil or_false false_or or_true true_or List.nodup_cons List.contains_cons List.contains_nil Bool.or_false Bool.or_true Bool.false_or Bool.true_or
attribute [go_sem] Bq7 Biq Bui Bqi Blb Bqf Buh Blf Biu Bld Bqe Bqd Bit Ble Bqc Blc Bis D.Lw Nb D.LY Mp Tq St.made Pd.flat Bqh Bq9 Bqg Nh I0 KQ
end Go.Am
end
