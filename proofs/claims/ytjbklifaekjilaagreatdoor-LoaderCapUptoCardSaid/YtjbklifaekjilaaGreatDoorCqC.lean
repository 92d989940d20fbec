/- Texts of this proof, what it rests on, merged: part C. -/
import Derived.ChangeArms
import Derived.ChangeSame
import Derived.OpenShut
import Derived.RowKit
import Derived.Test.YtjbklifaekjilaaGreatDoorCqB
section
set_option linter.unusedVariables false
set_option linter.unusedSimpArgs false
namespace Go.Am
open Go Go.ChangeShapes Go.RowKit
def TA(P:Program):Nat->List Field->Option Nat
 | o,[]=>some o
 | o,f::r=>if f.offset=o then TA P (o+P.cellsOf f.type) r else none
def FF(P:Program):Nat->TypeId->Bool
 | 0,_=>false
 | n+1,t=>match P.underlying t with
   | some .bool | some (.int _) | some .string=>true
   | some (.slice e)=>decide (0<P.cellsOf e)&&FF P n e
   | some (.struct fs)=>decide (TA P 0 fs.toList=some (P.cellsOf t))&&fs.toList.all λ f=>FF P n f.type
   | some (.array m e)=>decide (m*P.cellsOf e=P.cellsOf t)&&FF P n e
   | _=>false
mutual
def EU {H:Type}:DataW H->List Pd
  | .lit (.int k n)=>[.int k n]
  | .lit (.bool b)=>[.bool b]
  | .lit (.string l)=>[.str l]
  | .nil=>[.sl []]
  | .slice elems _=>[.sl (Abm elems)]
  | .agg parts=>Lp parts
  | _=>[]
def Abm {H:Type}:List (DataW H)->List (List Pd)
  | []=>[]
  | d::r=>EU d::Abm r
def Lp {H:Type}:List (DataW H)->List Pd
  | []=>[]
  | d::r=>EU d++Lp r
end
def Amv{H:Type}(d:DataW H):D:= .p ((EU d).getD 0 (.bool false))
def PRl(F:Nat->Prop)(w:World)(xs:List Pd)(vs:List Value):Prop:=xs.length=vs.length/\∀(i:Nat) x,xs[i]?=some x->PR F w x (vs.getD i undef)
section
variable {H:Type} {enc:TypeId×Value->H} {P:Program} {w:World} {spare:Nat->Bool} {held:Bool}
theorem PRl.append{F:Nat->Prop}{xs ys:List Pd}{vs ws:List Value}(h:PRl F w xs vs)(h':PRl F w ys ws):PRl F w (xs++ys) (vs++ws):=by
 refine ⟨by simp[h.1,h'.1],λ i x hx=>?_⟩;rw[AM] at hx;rw[Ay,AM,<-h.1];split at hx
 . rename_i hl;rw[if_pos hl];simpa [List.getD] using h.2 i x hx
 . rename_i hl;rw[if_neg hl];simpa [List.getD] using h'.2 _ x hx
theorem PRl.one{F:Nat->Prop}{x:Pd}{v:Value}(h:PR F w x v):PRl F w [x] [v]:=by
 refine ⟨rfl,λ i y hy=>?_⟩;cases i with
 | zero=>simp only[AK,Al] at hy;subst hy;exact h
 | succ i=>simp at hy
theorem Pj{F:Nat->Prop}{cs:List Value}{n:Nat}{m:Nat}(ih:∀t,FF P m t=true->∀cs x,DataW.trod enc P w 0 spare held n t cs=some x->PRl F w (EU x.1) cs):
   ∀(fs:List Field) (xs:List (DataW H×List MemPlace)) (o tot:Nat),xs.length=fs.length->TA P o fs=some tot->cs.length=tot->(fs.all λ f=>FF P m f.type)=true->
     (∀(i:Nat) (f:Field),fs[i]?=some f->DataW.trod enc P w 0 spare held n f.type ((cs.drop f.offset).take (P.cellsOf f.type))=xs[i]?)->PRl F w (Lp (xs.map (·.1))) (cs.drop o)
 | [],xs,o,tot,hl,hc,u6,_,_=>by
   have:xs=[]:=AZ hl;subst this;simp only[TA,Al] at hc;subst hc;rw[BC (by omega)];exact ⟨rfl,λ i x hx=>by simp[Lp] at hx⟩
 | f::r,xs,o,tot,hl,hc,u6,hp,hx=>by
   cases xs with
   | nil=>simp at hl
   | cons x xs=>
     simp only[TA] at hc;split at hc
     case isFalse=>cases hc
     rename_i ho;simp only[List.all_cons,Ar] at hp;have h0:=hx 0 f rfl;simp only[AK] at h0;have h1:=ih f.type hp.1 _ _ h0;have h2:=Pj ih r xs (o+P.cellsOf f.type) tot (by simpa using hl) hc u6 hp.2 (λ i g hg=>by simpa using hx (i+1) g (by simpa using hg));have e:cs.drop o=(cs.drop f.offset).take (P.cellsOf f.type)++cs.drop (o+P.cellsOf f.type):=by
       rw[ho,<-List.drop_drop,List.take_append_drop]
     rw[e];simp only[AD,Lp];exact h1.append h2
theorem Rg{F:Nat->Prop}{cs:List Value}{e:TypeId}{n k:Nat}(ih:∀cs x,DataW.trod enc P w 0 spare held n e cs=some x->PRl F w (EU x.1) cs):
   ∀(xs:List (DataW H×List MemPlace)) (i0:Nat),cs.length=(i0+xs.length)*k->(∀i,i<xs.length->DataW.trod enc P w 0 spare held n e ((cs.drop ((i0+i)*k)).take k)=xs[i]?)->
     PRl F w (Lp (xs.map (·.1))) (cs.drop (i0*k))
 | [],i0,hl,_=>by
   rw[BC (by simp at hl;omega)];exact ⟨rfl,λ i x hx=>by simp[Lp] at hx⟩
 | x::xs,i0,hl,hx=>by
   have h0:=hx 0 (by simp);simp only[Bh,AK] at h0;have h1:=ih _ _ h0;have h2:=Rg ih xs (i0+1) (by rw[hl];simp only[Aq];rw[show i0+(xs.length+1)=i0+1+xs.length by omega]) (λ i hi=>by
     have:=hx (i+1) (by simp only[Aq];omega);rw[show i0+(i+1)=i0+1+i by omega] at this
     simpa using this)
   have e:cs.drop (i0*k)=(cs.drop (i0*k)).take k++cs.drop ((i0+1)*k):=by
     rw[Bc,Nat.one_mul,<-List.drop_drop,List.take_append_drop]
   rw[e];simp only[AD,Lp];exact h1.append h2
theorem QK{base n:Nat}{a:Addr}{cs:List Value}(h:w.cells? base a n=some cs):cs.length=n/\∀j,j<n->w.cell? (a.add j)=cs[j]?:=by
 unfold World.cells? at h;split at h
 . exact ⟨by simpa using mapM_some_length h,λ j hj=>mapM_some_get h j j (by simp[hj])⟩
 . cases h
theorem Vr(xs:List (DataW H×List MemPlace)):Abm (xs.map (·.1))=xs.map λ x=>EU x.1:=by
 induction xs with
 | nil=>rfl
 | cons x r ih=>simp[Abm,ih]
theorem Zl{w:World}{a:Addr}{v:Value}(h:w.cell? a=some v):∃c t fr,w.heap[a.block]?=some (.cells c t fr)/\a.spot=none/\c[a.off]?=some v:=by
 unfold World.cell? at h;split at h
 . rename_i c t fr hb;split at h
   . cases h
   . rename_i hs;exact ⟨c,t,fr,hb,by simpa using hs,h⟩
 . cases h
theorem Auo{F:Nat->Prop}(hF:∀b,b<w.heap.size->F b):∀(m:Nat) (t:TypeId),FF P m t=true->∀(fuel:Nat) (cs:List Value) (x:DataW H×List MemPlace),
   DataW.trod enc P w 0 spare held fuel t cs=some x->PRl F w (EU x.1) cs:=by
 intro m
 induction m with
 | zero=>intro t h;simp[FF] at h
 | succ m ih=>
   intro t ht fuel cs x h;simp only[FF] at ht;split at ht
   . rename_i hu;obtain ⟨b,rfl,rfl⟩:=DataW.trod_bool hu h;exact .one (.bool b)
   . rename_i k hu;obtain ⟨n,rfl,rfl,_⟩:=DataW.trod_int hu h;exact .one (.int k n)
   . rename_i hu;obtain ⟨s,rfl,rfl,_⟩:=DataW.trod_string hu h;have:=PR.str (F:=F) (w:=w) s.data.toList;exact .one (by simpa using this)
   . rename_i e hu;simp only[Ar,Ao] at ht;obtain ⟨hk,hpe⟩:=ht;rcases DataW.trod_slice hu h with ⟨rfl,rfl⟩ | ⟨a,len,cap,elems,rest,n,rfl,rfl,rfl,hb,hl,hc,hel,Ci,_,_⟩
     . exact .one (.UK none 0)
     . refine .one ?_;simp only[Vr];have hg:∀(i:Nat) y,elems[i]?=some y->∃cs',w.cells? 0 (a.add (i*P.cellsOf e)) (P.cellsOf e)=some cs'/\PRl F w (EU y.1) cs':=by
         intro i y hy;have hi:i<len:=by rw[<-hel];exact (An.1 hy).1
         have:=Ci i hi;rw[hy] at this;obtain ⟨cs',h1,h2⟩:=Option.bind_eq_some_iff.1 this;exact ⟨cs',h1,ih e hpe _ _ _ h2⟩
       have Ie:∀(i:Nat) z,(elems.map λ x=>EU x.1)[i]?=some z->∃y,elems[i]?=some y/\z=EU y.1:=by
         intro i z hz;rw[AP] at hz;cases hy:elems[i]? with
         | none=>rw[hy] at hz;cases hz
         | some y=>rw[hy] at hz;cases hz;exact ⟨y,rfl,rfl⟩
       by_cases h0:len=0
       . have:elems=[]:=AZ (hel.trans h0);subst this;subst h0;exact .UK (some a) cap
       . have h00:∃y,elems[0]?=some y:=⟨_,Ax (by omega)⟩;obtain ⟨y,hy⟩:=h00;obtain ⟨cs',h1,_⟩:=hg 0 y hy;obtain ⟨hln,Nv⟩:=QK h1;have WR:=Nv 0 hk;rw[Ax (by omega)] at WR;obtain ⟨c,te,fr,hh,Aqz,_⟩:=Zl WR;obtain ⟨b,off,spot⟩:=a;simp[Addr.add] at hh Aqz;subst Aqz;have CK:∀(i:Nat) z (j:Nat) q,(elems.map λ x=>EU x.1)[i]?=some z->z[j]?=some q->∃v,c[off+i*P.cellsOf e+j]?=some v/\PR F w q v:=by
           intro i z j q hz hq;obtain ⟨y,hy,rfl⟩:=Ie i z hz;obtain ⟨cs2,h3,h4⟩:=hg i y hy;obtain ⟨Azo,At7⟩:=QK h3;have hj:j<P.cellsOf e:=by
             have:=(An.1 hq).1;rw[h4.1,Azo] at this;exact this
           have h5:=At7 j hj;rw[Ax (by omega)] at h5;obtain ⟨c2,te2,fr2,hh2,_,h6⟩:=Zl h5;simp only[Addr.add_lit] at hh2 h6;rw[hh] at hh2;cases hh2;refine ⟨_,h6,?_⟩;have:=h4.2 j q hq;rwa[Ay,Ax (by omega)] at this
         have hlen:(elems.map λ x=>EU x.1).length=len:=by simp[hel]
         have:=PR.sl (F:=F) (w:=w) (elems.map λ x=>EU x.1) b off cap (P.cellsOf e) c te fr (hF b (A8.1 hh).1) hh (by omega)
           (λ i z hz=>by
             obtain ⟨y,hy,rfl⟩:=Ie i z hz;obtain ⟨cs2,h3,h4⟩:=hg i y hy;rw[h4.1,(QK h3).1])
           (λ i z j q hz hq=>by obtain ⟨v,hv,_⟩:=CK i z j q hz hq;exact (A8.1 hv).1)
           (λ i z j q hz hq=>by
             obtain ⟨v,hv,hp⟩:=CK i z j q hz hq;rw[As,hv];exact hp)
         rwa[hlen] at this
   . rename_i fs hu;simp only[Ar,Ao] at ht;obtain ⟨xs,n,rfl,rfl,hl,Yv,Ci⟩:=DataW.trod_struct hu h;have:=Pj (F:=F) (cs:=cs) (λ t ht cs x hx=>ih t ht n cs x hx) fs.toList xs 0 _ (by simpa using Yv) ht.1 hl ht.2 (λ i f hf=>Ci i f (by simpa using hf))
     simpa [EU] using this
   . rename_i k e hu;simp only[Ar,Ao] at ht;obtain ⟨xs,n,rfl,rfl,hl,Yv,Ci⟩:=DataW.trod_array hu h;have:=Rg (F:=F) (cs:=cs) (λ cs x hx=>ih e ht.2 n cs x hx) xs 0 (by rw[hl,Yv,A0,ht.1]) (λ i hi=>by rw[A0];exact Ci i (by omega))
     simpa [EU] using this
   . cases ht
end
end Go.Am
namespace Go.Am
open Go Go.ChangeShapes Go.RowKit
section
variable {H:Type} {enc:TypeId×Value->H} {P:Program} {w:World} {held:Bool}
theorem Ars{sp:Nat->Bool}:∀(m:Nat) (t:TypeId),FF P m t=true->∀(fuel:Nat) (cs:List Value) (x:DataW H×List MemPlace),
   DataW.trod enc P w 0 (λ _=>true) held fuel t cs=some x->(∀p∈x.2,sp p.block=true)->DataW.trod enc P w 0 sp held fuel t cs=some x:=by
 intro m
 induction m with
 | zero=>intro t h;simp[FF] at h
 | succ m ih=>
   intro t ht fuel cs x h Fs;cases fuel with
   | zero=>simp[DataW.trod] at h
   | succ n=>
   simp only[FF] at ht;split at ht
   . rename_i hu;obtain ⟨b,rfl,rfl⟩:=DataW.trod_bool hu h;simp[DataW.trod,hu]
   . rename_i k hu;obtain ⟨j,rfl,rfl,hw⟩:=DataW.trod_int hu h;simp[DataW.trod,hu,hw]
   . rename_i hu;obtain ⟨s,rfl,rfl,hl⟩:=DataW.trod_string hu h;simp[DataW.trod,hu,hl]
   . rename_i e hu;simp only[Ar,Ao] at ht;obtain ⟨hk,hpe⟩:=ht;unfold DataW.trod at h ⊢;rw[hu] at h ⊢;split at h;all_goals first | (simp_all;done) | skip
     rename_i e1 a len cap he;simp only[Al,TypeDesc.slice.injEq] at he;subst he;simp only at h ⊢;split at h
     case isFalse=>cases h
     rename_i hb;rw[if_pos hb];simp only[Option.bind_eq_some_iff,BA,AL] at h ⊢;obtain ⟨elems,hel,rest,hre,rfl⟩:=h;have Q9:∀y∈elems++rest,∀p∈y.2,sp p.block=true:=λ y hy p hp=>Fs p (by
       simp only[Au,Bl];exact .inr ⟨y,by simpa using hy,hp⟩)
     have step:∀(i:Nat) (y:DataW H×List MemPlace),y∈elems++rest->(w.cells? 0 (a.add (i*P.cellsOf e)) (P.cellsOf e)).bind (DataW.trod enc P w 0 (λ _=>true) held n e)=some y->
         (w.cells? 0 (a.add (i*P.cellsOf e)) (P.cellsOf e)).bind (DataW.trod enc P w 0 sp held n e)=some y:=by
       intro i y hy h1;obtain ⟨cs',h2,h3⟩:=Option.bind_eq_some_iff.1 h1;exact Option.bind_eq_some_iff.2 ⟨cs',h2,ih e hpe _ _ _ h3 (Q9 y hy)⟩
     refine ⟨elems,mapM_carry hel (λ i y _ hy h1=>step i y (by simp[hy]) h1),rest,?_,rfl⟩;by_cases hc:cap - len=0
     . rw[hc] at hre ⊢;split
       . exact hre
       . simpa using hre
     . have hrl:rest.length=cap - len:=by simpa using mapM_some_length hre
       have Qv:sp a.block=true:=Fs (.cell a.block a.off) (by
         simp only[Au];refine .inl (MemPlace.mem_row.2 ⟨0,?_,by simp⟩);exact Nat.mul_pos (by omega) hk)
       rw[if_pos Qv];exact mapM_carry hre (λ j y _ hy h1=>step (len+j) y (by simp[hy]) h1)
   . rename_i fs hu;simp only[Ar,Ao] at ht;unfold DataW.trod at h ⊢;rw[hu] at h ⊢;split at h;all_goals first | (simp_all;done) | skip
     rename_i fs' he;simp only[Al,TypeDesc.struct.injEq] at he;subst he;(try simp only at h);split at h
     case isFalse=>cases h
     rename_i hl;rw[if_pos hl];simp only[BA] at h ⊢;obtain ⟨xs,hx,rfl⟩:=h;refine ⟨xs,mapM_carry hx (λ f y hf hy h1=>ih f.type (AB.1 ht.2 f hf) _ _ _ h1 λ p hp=>Fs p ?_),rfl⟩;simp only[Bl];exact ⟨y,hy,hp⟩
   . rename_i k e hu;simp only[Ar,Ao] at ht;unfold DataW.trod at h ⊢;rw[hu] at h ⊢;split at h;all_goals first | (simp_all;done) | skip
     rename_i k' e' he;simp only[Al,TypeDesc.array.injEq] at he;obtain ⟨rfl,rfl⟩:=he;(try simp only at h);split at h
     case isFalse=>cases h
     rename_i hl;rw[if_pos hl];simp only[BA] at h ⊢;obtain ⟨xs,hx,rfl⟩:=h;refine ⟨xs,mapM_carry hx (λ i y _ hy h1=>ih _ ht.2 _ _ _ h1 λ p hp=>Fs p ?_),rfl⟩;simp only[Bl];exact ⟨y,hy,hp⟩
   . cases ht
end
def T7(P:Program)(t:TypeId):Bool:=FF P 30 t&&match P.underlying t with
 | some (.struct _)=>false
 | some (.array _ _)=>false
 | _=>true
section
variable {H:Type} {enc:TypeId×Value->H} {P:Program} {W:World}
theorem Agz{t:TypeId}{v:Value}{d:DataW H}{ps:List MemPlace}{sp:Nat->Bool}{M:Nat->Mb}{s:Nat->Option Sg}(ht:T7 P t=true){bs:Nat}(Q8:Value.okWide P W .any bs t v)
   (h:DataW.Trod enc P W 0 sp true t v d ps):DR (λ b=>b<W.heap.size) W M s (Amv d) v:=by
 unfold T7 at ht;simp only[Ar] at ht;obtain ⟨hp,hs⟩:=ht;obtain ⟨fuel,hf⟩:=h;have h1:=Auo (F:=λ b=>b<W.heap.size) (λ _ h=>h) 30 t hp _ _ _ hf;have Nb:v.cells=#[v]:=by
   cases v with
   | agg cs=>
     exfalso;unfold Value.okWide Cell.okWide Cell.ok at Q8;cases hu:P.underlying t with
     | none=>rw[hu] at Q8;simp at Q8
     | some u=>rw[hu] at Q8 hs;cases u<;>simp[FF,hu] at Q8 hs hp
   | _=>rfl
 rw[Nb] at h1;have hl:(EU d).length=1:=h1.1;obtain ⟨x,hx⟩:=List.length_eq_one_iff.1 hl;unfold Amv;simp only[hx,A2];have:=h1.2 0 x (by simp[hx]);exact .p this
theorem TM{bs:Nat}{sp:Nat->Bool}{M:Nat->Mb}{s:Nat->Option Sg}:∀{ts:List TypeId} {vs:List Value} {ds:List (DataW H)} {ps:List MemPlace},(ts.all (T7 P))=true->
   (∀(j:Nat) t v,ts[j]?=some t->vs[j]?=some v->Value.okWide P W .any bs t v)->DataW.TrodAll enc P W 0 sp true ts vs ds ps->IB (λ b=>b<W.heap.size) W M s (ds.map Amv) vs
 | [],vs,ds,ps,_,_,h=>by
   obtain ⟨rfl,rfl,_⟩:=trodAll_nil h;exact ⟨rfl,λ i d hd=>by simp at hd⟩
 | t::ts,vs,ds,ps,ht,Q8,h=>by
   obtain ⟨v,vs',d,Y2,p,q,rfl,rfl,_,h1,h2⟩:=trodAll_cons h;simp only[List.all_cons,Ar] at ht;have h3:=Agz (M:=M) (s:=s) ht.1 (Q8 0 t v rfl rfl) h1;have h4:=TM (M:=M) (s:=s) ht.2 (λ j t v h5 h6=>Q8 (j+1) t v (by simpa using h5) (by simpa using h6)) h2;refine ⟨by simp[h4.1],λ i x hx=>?_⟩;cases i with
   | zero=>simp only[List.map_cons,List.getElem?_cons_zero,Option.some.injEq] at hx;subst hx;simpa [List.getD] using h3
   | succ i=>simp only[List.map_cons,List.getElem?_cons_succ] at hx;simpa [List.getD] using h4.2 i x hx
theorem VQ{W':World}{sp:Nat->Bool}(hW:∀b,b<W.heap.size->W'.heap[b]?=W.heap[b]?):∀{ts:List TypeId} {vs:List Value} {ds:List (DataW H)} {ps:List MemPlace},(ts.all (T7 P))=true->
   DataW.TrodAll enc P W 0 (λ _=>true) true ts vs ds ps->(∀p∈ps,sp p.block=true)->(∀p∈ps,p.block<W.heap.size)->DataW.TrodAll enc P W' 0 sp true ts vs ds ps
 | [],vs,ds,ps,_,h,_,_=>by
   obtain ⟨rfl,rfl,rfl⟩:=trodAll_nil h;exact trodAll_mk0
 | t::ts,vs,ds,ps,ht,h,Fs,Cj=>by
   obtain ⟨v,vs',d,Y2,p,q,rfl,rfl,rfl,⟨n,h1⟩,h2⟩:=trodAll_cons h;simp only[List.all_cons,Ar] at ht;have hp:FF P 30 t=true:=by have:=ht.1;unfold T7 at this;simp only[Ar] at this;exact this.1
   have h3:=Ars 30 t hp n _ _ h1 (sp:=sp) (λ p hp=>Fs p (by simp[hp]));have h4:=DataW.trod_carry n t _ _ h3 (w':=W') (λ p hp=>by
     have:=hW p.block (Cj p (by simp[hp]));cases p with
     | cell b o=>simp only[MemPlace.block] at this;simp[World.sameAt,World.cell?,this]
     | map b=>exact this)
   exact trodAll_cons_mk ⟨n,h4⟩ (VQ hW ht.2 h2 (λ p hp=>Fs p (by simp[hp])) (λ p hp=>Cj p (by simp[hp])))
theorem Yk{W W':World}(hos:W'.os=W.os)(Ry:W'.output=W.output)(h:∀b,b<W.heap.size->W'.heap[b]?=W.heap[b]?)(may:MemPlace->Prop):W.keptBut W' may:=by
 refine ⟨hos,Ry,λ i hi=>?_⟩;rw[h i hi];split
 . rename_i h1 h2;cases h1.symm.trans h2;exact ⟨rfl,rfl,rfl,λ _ _=>rfl⟩
 . rename_i h1 h2;cases h1.symm.trans h2;exact .inr ⟨rfl,rfl⟩
 . rfl
end
end Go.Am
namespace Go.Am
open Go
def HX(e h h':Hp):Prop:=∀id,get h' id=match get h id with | some o=>some o | none=>get e id
theorem Rs.PC{α:Type}{p:Prop}{k:α->Prop}:∀{r:Rs α},p->r.all k->(r.and p).all k
 | .fail,_,h=>h.elim
 | .ret q a,hp,h=>⟨⟨hp,h.1⟩,h.2⟩
 | .split b x y,hp,h=>⟨λ e=>Rs.PC hp (h.1 e),λ e=>Rs.PC hp (h.2 e)⟩
theorem Rs.Cz{α β:Type}{f:α->Rs β}{k:β->Prop}:∀{r:Rs α},r.all (λ a=>(f a).all k)->(r.bind f).all k
 | .fail,h=>h.elim
 | .ret p a,h=>Rs.PC h.1 h.2
 | .split b x y,h=>⟨λ e=>Rs.Cz (h.1 e),λ e=>Rs.Cz (h.2 e)⟩
section
variable {P:Program} {e h h':Hp}
theorem HX.sm(hx:HX e h h'){id:Nat}{o:AO}(hg:get h id=some o):get h' id=some o:=by rw[hx,hg]
theorem HX.nn(hx:HX e h h'){id:Nat}(hg:get h id=none)(he:get e id=none):get h' id=none:=by rw[hx,hg];exact he
theorem HX.sg(hx:HX e h h'){id:Nat}{s:Sg}(hg:sg h id=some s):sg h' id=some s:=by
 unfold Go.Am.sg at*;cases ho:get h id with
 | none=>rw[ho] at hg;cases hg
 | some o=>rw[ho] at hg;rw[hx.sm ho];exact hg
theorem HX.cur(hx:HX e h h'){id N:Nat}(hc:Aa3 h id N):Aa3 h' id N:=by
 unfold Aa3 at*;cases hs:Go.Am.sg h id with
 | none=>rw[hs] at hc;exact hc.elim
 | some s=>rw[hs] at hc;rw[hx.sg hs];exact hc
theorem HX.Co(hx:HX e h h')(id:Nat)(o:AO):HX e (Co h id o) (Co h' id o):=by
 intro j;rw[CH,CH];by_cases ej:j=id
 . rw[if_pos ej,if_pos ej]
 . rw[if_neg ej,if_neg ej];exact hx j
theorem HX.cons(hx:HX e h h')(id:Nat)(o:AO):HX e ((id,o)::h) ((id,o)::h'):=by
 intro j;rw[Cb,Cb];by_cases ej:id=j
 . rw[if_pos ej,if_pos ej]
 . rw[if_neg ej,if_neg ej];exact hx j
theorem HX.froze(hx:HX e h h'){id:Nat}{o:AO}(hg:get h id=some o):HX e (froze h id) (froze h' id):=by
 unfold Go.Am.froze;rw[hg,hx.sm hg];cases o<;>first | exact hx.Co _ _ | exact hx
theorem HX.refl(h:Hp):HX [] h h:=by
 intro id;cases get h id<;>rfl
theorem HX.one{q:Nat}{o:AO}(hq:get h q=none):HX [(q,o)] h ((q,o)::h):=by
 intro id;simp only[Cb];by_cases ej:q=id
 . subst ej;rw[hq];simp
 . rw[if_neg ej,if_neg ej];cases get h id<;>rfl
theorem Aj3(hx:HX e h h'){t:TypeId}{d:D}{k:D->Prop}(hh:(L6 P h t d).all k):(L6 P h' t d).all k:=by
 unfold L6 at*;split at hh
 . split at hh
   . rename_i h2;simp only[hx.sm h2];exact hh
   . exact hh.elim
 . exact hh
 . split at hh
   . rename_i h2;simp only[hx.sm h2];exact hh
   . rename_i h2;simp only[hx.sm h2];exact hh
   . exact hh.elim
 . split at hh
   . rename_i h2;simp only[hx.sm h2];exact hh
   . exact hh.elim
 . exact hh.elim
theorem Us(hx:HX e h h'){t:TypeId}{d:D}{f:Nat}{k:D->Prop}(hh:(GG P t d f h).all k):(GG P t d f h').all k:=by
 unfold GG at*;split at hh
 . split at hh
   . split at hh
     . split at hh
       . exact hh
       . exact hh
       . exact ⟨⟨hh.1.1,hx.cur hh.1.2⟩,hh.2⟩
       . exact hh.elim
     . exact hh.elim
   . exact hh.elim
 . exact hh.elim
theorem Ui(hx:HX e h h'){t:TypeId}{d i:D}{k:D->Prop}(hh:(GD P t d i h).all k):(GD P t d i h').all k:=by
 unfold GD at*;split at hh
 . split at hh
   . split at hh
     . exact hh
     . exact hh
     . split at hh
       . rename_i h2;simp only[hx.sg h2];exact hh
       . exact hh.elim
     . exact hh
     . exact hh.elim
   . exact hh.elim
 . exact hh
 . exact hh.elim
theorem Ab8(hx:HX e h h'){t:TypeId}{d:D}{k:D->Prop}(hh:(n9 P h t d).all k):(n9 P h' t d).all k:=by
 unfold n9 at*;split at hh
 . split at hh
   . exact hh
   . exact hh
   . exact hh
   . exact ⟨hx.cur hh.1,hh.2⟩
   . exact hh
   . exact hh
   . exact hh
   . exact hh.elim
 . exact hh.elim
theorem Ack{env:List (Nat×D)}{n:Nat}(hx:HX e h h'){t:TypeId}{x:D}{lo hi mx:Option Operand}{k:D->Prop}(hh:(HA P ⟨env,h,n⟩ t x lo hi mx).all k):(HA P ⟨env,h',n⟩ t x lo hi mx).all k:=by
 unfold HA at*;split at hh
 . exact hh
 . split at hh
   . split at hh
     . exact hh
     . split at hh
       . rename_i h2;simp only[hx.sg h2];exact hh
       . exact hh.elim
     . exact hh.elim
   . exact hh.elim
 . exact hh.elim
theorem l8(hx:HX e h h'){t:TypeId}{x i:D}{ok:Bool}{k:D->Prop}(hh:(KV P h t x i ok).all k):(KV P h' t x i ok).all k:=by
 unfold KV at*;split at hh
 . split at hh
   . rename_i h1;simp only[hx.sm h1];exact hh
   . exact hh.elim
 . exact hh.elim
theorem Adh(hx:HX e h h'){t:TypeId}{m i v:D}{k:Hp->Prop}(hh:(JK P h t m i v).all k):(JK P h' t m i v).all (λ y=>∃h1,HX e h1 y/\k h1):=by
 unfold JK at*;split at hh
 . split at hh
   . rename_i h1;simp only[hx.sm h1];exact ⟨hh.1,_,hx.Co _ _,hh.2⟩
   . exact hh.elim
 . exact hh.elim
theorem Aal{env:List (Nat×D)}{n:Nat}(hx:HX e h h'){op:Op}{k:D->Prop}(hh:(JC P ⟨env,h,n⟩ op).all k):(JC P ⟨env,h',n⟩ op).all k:=by
 unfold JC at*;cases op<;>simp only at hh ⊢<;>first
   | exact hh
   | exact Aj3 hx hh
   | exact Ack hx hh
   | exact Us hx hh
   | exact Ui hx hh
   | exact l8 hx hh
   | skip
 . have ee:∀x,ev ⟨env,h',n⟩ x=ev ⟨env,h,n⟩ x:=λ _=>rfl;simp only[ee];split at hh
   . rename_i h1;exact hh
   . rename_i h1;exact hh
   . rename_i h1;exact ⟨hx.cur hh.1,hh.2⟩
   . exact hh.elim
 . rename_i fn _ _;cases fn<;>first
     | exact hh
     | exact hh.elim
theorem Fb(hx:HX e h h'){d:D}{k:D×Hp->Prop}(hh:(TG h d).all k):(TG h' d).all (λ y=>∃h1,HX e h1 y.2/\k (y.1,h1)):=by
 unfold TG at*;split at hh
 . split at hh
   . rename_i h1;simp only[hx.sm h1];exact ⟨hh.1,_,hx.froze h1,hh.2⟩
   . rename_i h1;simp only[hx.sm h1];exact ⟨hh.1,_,hx,hh.2⟩
   . exact hh.elim
 . split at hh
   . rename_i h1;simp only[hx.sm h1];exact ⟨hh.1,_,hx.Co _ _,hh.2⟩
   . exact hh.elim
 . exact ⟨hh.1,_,hx,hh.2⟩
 . exact ⟨hh.1,_,hx,hh.2⟩
mutual
theorem Amq:∀{d:D} {h h':Hp} (_:HX e h h') {k:D×Hp->Prop} (_:(CT h d).all k),(CT h' d).all (λ y=>∃h1,HX e h1 y.2/\k (y.1,h1))
  | .agg cs,h,h',hx,k,hh=>by
    simp only[CT] at*;exact Rs.Cz (Rs.B7 (λ y hy=>by obtain ⟨h1,I3,h2⟩:=hy;exact ⟨h2.1,h1,I3,h2.2⟩) (MZ hx (Rs.all_bind hh)))
  | .De cs,h,h',hx,k,hh=>by
    simp only[CT] at*;exact Rs.Cz (Rs.B7 (λ y hy=>by obtain ⟨h1,I3,h2⟩:=hy;exact ⟨h2.1,h1,I3,h2.2⟩) (MZ hx (Rs.all_bind hh)))
  | .p _,h,h',hx,k,hh=>by simp only[CT] at*;exact Fb hx hh
  | .cl _,h,h',hx,k,hh=>by simp only[CT] at*;exact Fb hx hh
  | .cz _,h,h',hx,k,hh=>by simp only[CT] at*;exact Fb hx hh
  | .ref _ _ _ _,h,h',hx,k,hh=>by simp only[CT] at*;exact Fb hx hh
  | .ptr _ _,h,h',hx,k,hh=>by simp only[CT] at*;exact Fb hx hh
  | .pe _,h,h',hx,k,hh=>by simp only[CT] at*;exact Fb hx hh
  | .ea _ _ _ _,h,h',hx,k,hh=>by simp only[CT] at*;exact Fb hx hh
  | .fn _ _,h,h',hx,k,hh=>by simp only[CT] at*;exact Fb hx hh
  | .np,h,h',hx,k,hh=>by simp only[CT] at*;exact Fb hx hh
  | .mv _,h,h',hx,k,hh=>by simp only[CT] at*;exact Fb hx hh
  | .Dk _ _,h,h',hx,k,hh=>by simp only[CT] at*;exact Fb hx hh
  | .Ls _ _ _,h,h',hx,k,hh=>by simp only[CT] at*;exact Fb hx hh
  | .nr _ _ _ _,h,h',hx,k,hh=>by simp only[CT] at*;exact Fb hx hh
  | .PU,h,h',hx,k,hh=>by simp only[CT] at*;exact Fb hx hh
  | .bad,h,h',hx,k,hh=>by simp only[CT] at*;exact Fb hx hh
theorem MZ:∀{ds:List D} {h h':Hp} (_:HX e h h') {k:List D×Hp->Prop} (_:(Gi h ds).all k),(Gi h' ds).all (λ y=>∃h1,HX e h1 y.2/\k (y.1,h1))
  | [],h,h',hx,k,hh=>by simp only[Gi] at*;exact ⟨hh.1,_,hx,hh.2⟩
  | d::r,h,h',hx,k,hh=>by
    simp only[Gi] at*;refine Rs.Cz (Rs.B7 (λ y hy=>?_) (Amq hx (Rs.all_bind hh)));obtain ⟨h1,I3,h2⟩:=hy;exact Rs.Cz (Rs.B7 (λ z hz=>by obtain ⟨h3,r4,h4⟩:=hz;exact ⟨h4.1,h3,r4,h4.2⟩) (MZ I3 (Rs.all_bind h2)))
end
theorem Aob(hx:HX e h h'){d:D}{k:Pd×Hp->Prop}(hh:(Uc h d).all k):(Uc h' d).all (λ y=>∃h1,HX e h1 y.2/\k (y.1,h1)):=by
 unfold Uc at*;split at hh
 . exact ⟨hh.1,_,hx,hh.2⟩
 . exact ⟨hh.1,_,hx,hh.2⟩
 . exact ⟨hh.1,_,hx,hh.2⟩
 . split at hh
   . rename_i h1;simp only[hx.sm h1];exact ⟨hh.1,_,hx.froze h1,hh.2⟩
   . rename_i h1;simp only[hx.sm h1];exact ⟨hh.1,_,hx,hh.2⟩
   . exact hh.elim
 . split at hh
   . rename_i h1;simp only[hx.sm h1];exact ⟨hh.1,_,hx.Co _ _,hh.2⟩
   . exact hh.elim
 . exact hh.elim
theorem Sw:∀{ds:List D} {h h':Hp} (_:HX e h h') {k:List Pd×Hp->Prop} (_:(HZ h ds).all k),(HZ h' ds).all (λ y=>∃h1,HX e h1 y.2/\k (y.1,h1))
 | [],h,h',hx,k,hh=>by simp only[HZ] at*;exact ⟨hh.1,_,hx,hh.2⟩
 | d::r,h,h',hx,k,hh=>by
   simp only[HZ] at*;refine Rs.Cz (Rs.B7 (λ y hy=>?_) (Aob hx (Rs.all_bind hh)));obtain ⟨h1,I3,h2⟩:=hy;exact Rs.Cz (Rs.B7 (λ z hz=>by obtain ⟨h3,r4,h4⟩:=hz;exact ⟨h4.1,h3,r4,h4.2⟩) (Sw I3 (Rs.all_bind h2)))
theorem Aap(hx:HX e h h'){d:D}{k:List (List Pd)->Prop}(hh:(R7 h d).all k):(R7 h' d).all k:=by
 unfold R7 at*;split at hh
 . exact hh
 . exact hh
 . exact hh
 . split at hh
   . rename_i h1;simp only[hx.sm h1];exact hh
   . rename_i h1;simp only[hx.sm h1];exact hh
   . exact hh.elim
 . exact hh.elim
theorem Aq0(hx:HX e h h'){q:Nat}(hq:get e q=none){t t2:TypeId}{s x:D}{k:D×Hp->Prop}(hh:(TN P h q t t2 s x).all k):(TN P h' q t t2 s x).all (λ y=>∃h1,HX e h1 y.2/\k (y.1,h1)):=by
 unfold TN at*;split at hh
 case h_2=>exact hh.elim
 split at hh
 case h_2=>exact hh.elim
 refine Rs.Cz (Rs.B7 (λ ys hy=>?_) (Aap hx (Rs.all_bind hh)));split at hy
 . obtain ⟨⟨a1,a2,a3,a4,a5,a6⟩,hk⟩:=hy;exact ⟨⟨a1,a2,a3,a4,hx.nn a5 hq,a6⟩,_,hx.cons _ _,hk⟩
 . obtain ⟨⟨a1,a2,a3,a4,a5,a6⟩,hk⟩:=hy;exact ⟨⟨a1,a2,a3,a4,hx.nn a5 hq,a6⟩,_,hx.cons _ _,hk⟩
 . obtain ⟨h0,hy⟩:=NF hy;refine UE h0 ?_;split at hy
   . rename_i h1;simp only[hx.sm h1];exact ⟨hy.1,_,hx.Co _ _,hy.2⟩
   . exact hy.elim
 . split at hy
   . rename_i h1;obtain ⟨⟨a1,a2,a3,a4,⟨b1,b2,b3,b4,b5,b6⟩,a5⟩,hk⟩:=hy;simp only[hx.sm h1];exact ⟨⟨a1,a2,a3,a4,⟨b1,b2,b3,b4,b5,hx.nn b6 hq⟩,a5⟩,_,(hx.Co _ _).cons _ _,hk⟩
   . exact hy.elim
 . exact hy.elim
theorem Amd(hx:HX e h h'){t:TypeId}{s x:D}{k:D×Hp->Prop}(hh:(Mt P h t s x).all k):(Mt P h' t s x).all (λ y=>∃h1,HX e h1 y.2/\k (y.1,h1)):=by
 unfold Mt at*;split at hh
 case h_2=>exact hh.elim
 split at hh
 case h_2=>exact hh.elim
 refine Rs.Cz (Rs.B7 (λ ys hy=>?_) (Aap hx (Rs.all_bind hh)));split at hy
 case h_2=>exact hy.elim
 split at hy
 case h_2=>exact hy.elim
 rename_i h1;simp only[hx.sm h1];exact ⟨hy.1,_,hx.Co _ _,hy.2⟩
theorem Wm(hx:HX e h h'){id i n:Nat}{v:D}{k:Hp->Prop}(hh:(Fj h id i n v).all k):(Fj h' id i n v).all (λ y=>∃h1,HX e h1 y/\k h1):=by
 unfold Fj at*;split at hh
 . split at hh
   . rename_i h1 h2;simp only[hx.sm h1,hx.sm h2];exact ⟨hh.1,_,(hx.Co _ _).Co _ _,hh.2⟩
   . exact hh.elim
 . exact hh.elim
theorem Ach(hx:HX e h h'){t:TypeId}{a v:D}{k:Hp->Prop}(hh:(JE P h t a v).all k):(JE P h' t a v).all (λ y=>∃h1,HX e h1 y/\k h1):=by
 unfold JE at*;split at hh
 case h_2=>exact hh.elim
 split at hh
 case h_2=>exact hh.elim
 split at hh
 . split at hh
   . rename_i h1;simp only[hx.sm h1];exact ⟨hh.1,_,hx.Co _ _,hh.2⟩
   . exact hh.elim
 . refine Rs.Cz (Rs.B7 (λ y hy=>?_) (Sw hx (Rs.all_bind hh)));obtain ⟨h1,I3,hy⟩:=hy;split at hy
   . rename_i h2;simp only[I3.sm h2];exact ⟨hy.1,_,I3.Co _ _,hy.2⟩
   . exact hy.elim
 . exact Rs.PC (Rs.Eo hh).1 (Wm hx (Rs.Eo hh).2)
 . exact hh.elim
end
end Go.Am
namespace Go.Am
open Go
section
variable {P:Program} {e h h':Hp}
theorem KT{env:List (Nat×D)}{n:Nat}(hx:HX e h h'){q:Nat}(hq:get e q=none){op:Op}{k:D×Hp->Prop}(hh:(KU P ⟨env,h,n⟩ q op).all k):
   (KU P ⟨env,h',n⟩ q op).all (λ y=>∃h1,HX e h1 y.2/\k (y.1,h1)):=by
 have ee:∀x,ev ⟨env,h',n⟩ x=ev ⟨env,h,n⟩ x:=λ _=>rfl;have ef:ev ⟨env,h',n⟩=ev ⟨env,h,n⟩:=funext ee;unfold KU at*;simp only[ee] at*;split at hh
 . split at hh
   . split at hh
     . exact ⟨hx.nn hh.1 hq,_,hx.cons _ _,hh.2⟩
     . exact hh.elim
   . exact hh.elim
 . split at hh
   . exact ⟨hx.nn hh.1 hq,_,hx.cons _ _,hh.2⟩
   . exact hh.elim
 . refine Rs.Cz (Rs.B7 (λ y hy=>?_) (Ach hx (Rs.all_bind hh)));obtain ⟨h1,I3,hy⟩:=hy;exact ⟨hy.1,h1,I3,hy.2⟩
 . exact ⟨hx.nn hh.1 hq,_,hx.cons _ _,hh.2⟩
 . refine Rs.Cz (Rs.B7 (λ y hy=>?_) (Adh hx (Rs.all_bind hh)));obtain ⟨h1,I3,hy⟩:=hy;exact ⟨hy.1,h1,I3,hy.2⟩
 . split at hh
   . split at hh
     . split at hh
       . split at hh
         . exact hh.elim
         rename_i hn;rw[if_neg hn];refine Rs.Cz (Rs.B7 (λ y hy=>?_) (Sw hx (Rs.all_bind hh)));obtain ⟨h1,I3,hy⟩:=hy;exact ⟨⟨hy.1.1,hy.1.2.1,I3.nn hy.1.2.2 hq⟩,_,I3.cons _ _,hy.2⟩
       . exact hh.elim
     . exact hh.elim
   . exact hh.elim
 . split at hh
   . split at hh
     . split at hh
       . exact hh.elim
       rename_i hn;rw[if_neg hn];refine Rs.Cz (Rs.B7 (λ y hy=>?_) (Rs.all_bind hh));exact ⟨⟨hy.1.1,hx.nn hy.1.2.1 hq,hy.1.2.2⟩,_,hx.cons _ _,hy.2⟩
     . exact hh.elim
   . exact hh.elim
 . exact hh.elim
theorem Zq{env:List (Nat×D)}{n:Nat}(hx:HX e h h'){q:Nat}(hq:get e q=none){b:Builtin}{ts:Array TypeId}{args:List D}{k:D×Hp->Prop}(hh:(EZ P ⟨env,h,n⟩ q b ts args).all k):
   (EZ P ⟨env,h',n⟩ q b ts args).all (λ y=>∃h1,HX e h1 y.2/\k (y.1,h1)):=by
 unfold EZ at*;split at hh
 . split at hh
   . refine Rs.Cz (Rs.B7 (λ y hy=>?_) (Ab8 hx (Rs.all_bind hh)));exact ⟨hy.1,_,hx,hy.2⟩
   . exact hh.elim
 . split at hh
   . exact Aq0 hx hq hh
   . exact hh.elim
 . split at hh
   . exact Amd hx hh
   . exact hh.elim
 . exact ⟨hh.1,_,hx,hh.2⟩
 . exact ⟨hh.1,_,hx,hh.2⟩
 . exact hh.elim
theorem Atg{env:List (Nat×D)}{n:Nat}(hx:HX e h h'){o:Oper}(hq:get e (o.dst.getD 0)=none){k:D×Hp->Prop}(hh:(JQ P ⟨env,h,n⟩ o).all k):
   (JQ P ⟨env,h',n⟩ o).all (λ y=>∃h1,HX e h1 y.2/\k (y.1,h1)):=by
 have val:∀{op:Op},((JC P ⟨env,h,n⟩ op).bind λ d=> .ret True (d,h)).all k->((JC P ⟨env,h',n⟩ op).bind λ d=> .ret True (d,h')).all (λ y=>∃h1,HX e h1 y.2/\k (y.1,h1)):=λ hv=>
   Rs.Cz (Rs.B7 (λ d hd=>⟨hd.1,_,hx,hd.2⟩) (Aal hx (Rs.all_bind hv)))
 unfold JQ at*;split at hh
 . split at hh
   . exact Zq hx hq hh
   . exact hh.elim
 . rename_i h1;exact KT hx hq hh
 . exact KT hx hq hh
 . exact KT hx hq hh
 . exact KT hx hq hh
 . exact KT hx hq hh
 . exact KT hx hq hh
 . exact KT hx hq hh
 . exact val hh
theorem Amj{env:List (Nat×D)}{n:Nat}(hx:HX e h h'){f:Operand}{args:List Operand}{k:FuncId×List D×Hp->Prop}(hh:(GV ⟨env,h,n⟩ f args).all k):
   (GV ⟨env,h',n⟩ f args).all (λ y=>∃h1,HX e h1 y.2.2/\k (y.1,y.2.1,h1)):=by
 have ee:∀x,ev ⟨env,h',n⟩ x=ev ⟨env,h,n⟩ x:=λ _=>rfl;have ef:ev ⟨env,h',n⟩=ev ⟨env,h,n⟩:=funext ee;unfold GV at*;rw[ef];split at hh
 . refine Rs.Cz (Rs.B7 (λ y hy=>?_) (MZ hx (Rs.all_bind hh)));obtain ⟨h1,I3,hy⟩:=hy;exact ⟨hy.1,h1,I3,hy.2⟩
 . exact hh.elim
theorem GH:∀(l T:List Nat) (id:Nat),id∈T->id∈Fc T l
 | [],T,id,h=>h
 | i::r,T,id,h=>by
   simp only[Fc];split
   . exact GH r T id h
   . exact GH r _ id (BL _ h)
theorem SV(hx:HX e h h'):∀(l:List Nat),(∀id∈l,(get h id).isSome=true)->Iq h' l=Iq h l
 | [],_=>rfl
 | i::r,hp=>by
   obtain ⟨o,ho⟩:=BE.1 (hp i (by simp));simp only[Iq,ho,hx.sm ho,SV hx r (λ id hi=>hp id (by simp[hi]))]
theorem Pc(hx:HX e h h')(he:∀id,get e id≠none->id<10000){id:Nat}(hid:base<=id):ghost h' id=ghost h id:=by
 have:get h' id=get h id:=by
   rw[hx];cases hg:get h id with
   | some o=>rfl
   | none=>
     cases he2:get e id with
     | none=>rfl
     | some o=>have:=he id (by rw[he2];simp);unfold base at hid;omega
 simp only[ghost,this]
theorem Aeb(hx:HX e h h')(he:∀id,get e id≠none->id<10000):Qz h'=Qz h:=by
 simp only[Qz,Pc hx he (Ai base),Pc hx he (Nat.le_add_right base 1),Pc hx he (Nat.le_add_right base 2),Pc hx he (Nat.le_add_right base 3)]
theorem VN(hx:HX e h h')(he:∀id,get e id≠none->id<10000)(ids:List Nat)(hp:∀id∈DF h ids,(get h id).isSome=true):DF h' ids=DF h ids:=by
 unfold DF at*;simp only at hp ⊢;have h0:Iq h' (Fc [] ids)=Iq h (Fc [] ids):=SV hx _ λ id hi=>hp id (GH _ _ _ (GH _ _ _ (GH _ _ _ hi)));rw[h0];have h1:Iq h' (Fc (Fc [] ids) (Iq h (Fc [] ids)))=Iq h (Fc (Fc [] ids) (Iq h (Fc [] ids))):=SV hx _ λ id hi=>hp id (GH _ _ _ (GH _ _ _ hi));rw[h1,Aeb hx he]
theorem ZY(hx:HX e h h')(ρ:Nat->Option Nat):∀(T:List Nat) (k:Nat),(∀id∈T,(get h id).isSome=true)->sub h' ρ k T=sub h ρ k T
 | [],_,_=>rfl
 | i::r,k,hp=>by
   obtain ⟨o,ho⟩:=BE.1 (hp i (by simp));simp only[sub,ho,hx.sm ho,ZY hx ρ r (k+1) (λ id hi=>hp id (by simp[hi]))]
theorem YH(hx:HX e h h'){q:Nat}(hq:∀j,get e (10000*(j+1)+q)=none):∀(l:Hp),fresh q h l->fresh q h' l
 | [],_=>trivial
 | (j,_)::r,hf=>⟨hf.1.imp id λ h1=>hx.nn h1 (hq j),YH hx hq r hf.2⟩
theorem OU(hx:HX e h h')(T:List Nat)(q:Nat):∀(l:Hp),HX e (merge T q h l) (merge T q h' l)
 | []=>hx
 | (j,o)::r=>by
   simp only[merge];split
   . exact (OU hx T q r).Co _ _
   . exact OU hx T q r
theorem Aml(hx:HX e h h'){f:FuncId}{ds:List D}{q:Nat}(he:∀id,get e id≠none->id<10000)(hq:∀j,get e (10000*(j+1)+q)=none){k:D->Hp->Prop}(hh:Hy P h f ds q k):
   Hy P h' f ds q (λ d y=>∃h1,HX e h1 y/\k d h1):=by
 unfold Hy at*;obtain ⟨h1,h2,h3⟩:=hh;have hp:∀id∈DF h (C6 ds),(get h id).isSome=true:=λ id hi=>AB.1 h2 id hi;rw[VN hx he _ hp];refine ⟨h1,AB.2 λ id hi=>?_,?_⟩
 . obtain ⟨o,ho⟩:=BE.1 (hp id hi);rw[hx.sm ho];rfl
 . rw[ZY hx _ _ _ hp];exact h3.mono λ h2 r ⟨hf,hk⟩=>⟨YH hx hq h2 hf,_,OU hx _ _ _,hk⟩
theorem Rs.E1{α:Type}{S:Prop}{k:α->Prop}:∀{r:Rs α},r.all k->r.Jg S k
 | .fail,h=>h.elim
 | .ret p a,h=>h
 | .split b x y,h=>⟨λ e=>Rs.E1 (h.1 e),λ e=>Rs.E1 (h.2 e)⟩
theorem Oj{f:FuncId}{ds:List D}{q:Nat}{k k':D->Hp->Prop}(hk:∀d y,k d y->k' d y)(hh:Hy P h f ds q k):Hy P h f ds q k':=by
 unfold Hy at*;exact ⟨hh.1,hh.2.1,hh.2.2.mono λ h2 r ⟨hf,h3⟩=>⟨hf,hk _ _ h3⟩⟩
theorem Aro{env:List (Nat×D)}{n:Nat}(hx:HX e h h'){o:Oper}(hq:∀id,get e id≠none->id<10000)(hd:get e (o.dst.getD 0)=none){K:St->Prop}(hh:PT P false o K ⟨env,h,n⟩):
   PT P false o (λ st=>∃h1,HX e h1 st.hp/\K {st with hp:=h1}) ⟨env,h',n⟩:=by
 have Mf:∀j,get e (10000*(j+1)+o.dst.getD 0)=none:=λ j=>by
   cases hg:get e (10000*(j+1)+o.dst.getD 0) with
   | none=>rfl
   | some x=>have:=hq _ (by rw[hg];simp);omega
 have key:∀(y h2:Hp) (d:D),K ((⟨env,h2,n⟩:St).put o.dst d)->K {(⟨env,y,n⟩:St).put o.dst d with hp:=h2}:=by
   intro y h2 d hk;generalize o.dst=dst at hk ⊢;cases dst with
   | none=>exact hk
   | some t=>
     simp only[St.put] at hk ⊢;split
     . rename_i ht;rw[if_pos ht] at hk;exact hk
     . rename_i ht;rw[if_neg ht] at hk;exact hk
 have Ar2:∀(st:St) (t:Option Nat) (d:D),(st.put t d).hp=st.hp:=by
   intro st t d;cases t with
   | none=>rfl
   | some t=>simp only[St.put];split<;>rfl
 unfold PT at*;split at hh
 . rename_i f args ho;rcases Rs.FL hh with hh | hh
   case inr=>exact (AI hh.1).elim
   simp only[K5] at hh ⊢;refine Rs.E1 (Rs.B7 (λ x H4=>?_) (Amj hx hh));obtain ⟨h1,I3,hc⟩:=H4;have:=Aml I3 hq Mf hc;refine Oj (λ d y hy=>?_) this;obtain ⟨h2,H4,hk⟩:=hy;exact ⟨h2,by rw[Ar2];exact H4,key _ _ _ hk⟩
 . rcases Rs.FL hh with hh | hh
   case inr=>exact (AI hh.1).elim
   refine Rs.E1 (Rs.B7 (λ x H4=>?_) (Atg hx hd hh));obtain ⟨h1,I3,hk⟩:=H4;exact ⟨h1,by rw[Ar2];exact I3,key _ _ _ hk⟩
end
end Go.Am
namespace Go.Am
open Go
def Gj(h:Hp)(d:D):Prop:=∀id∈d.ids,get h id≠none
def F6(h:Hp)(ds:List D):Prop:=∀id∈C6 ds,get h id≠none
def Io(h:Hp):Prop:=∀id o,get h id=some o->∀i∈o.ids,get h i≠none
def Lq(h h':Hp):Prop:=∀id,get h id≠none->get h' id≠none
def EM(q:Option Nat)(h h':Hp):Prop:=∀id,get h' id≠none->get h id≠none∨some id=q∨10000<=id
section
variable {P:Program} {e h h':Hp} {q:Option Nat}
theorem HX.eq(hx:HX e h h'){id:Nat}(hg:get h id≠none):get h' id=get h id:=by
 cases ho:get h id with
 | none=>exact (hg ho).elim
 | some o=>exact hx.sm ho
theorem HX.nn'(hx:HX e h h'){id:Nat}(hg:get h' id=none):get h id=none:=by
 cases ho:get h id with
 | none=>rfl
 | some o=>rw[hx.sm ho] at hg;cases hg
theorem EM.refl(q:Option Nat)(h:Hp):EM q h h:=λ _ hi=> .inl hi
theorem EM.trans{u9:Hp}(h1:EM q h h')(h2:EM q h' u9):EM q h u9:=λ id hi=>by
 rcases h2 id hi with h3 | h3
 . exact h1 id h3
 . exact .inr h3
theorem Lq.refl(h:Hp):Lq h h:=λ _ hi=>hi
theorem Lq.trans{u9:Hp}(h1:Lq h h')(h2:Lq h' u9):Lq h u9:=λ id hi=>h2 id (h1 id hi)
theorem EM.Co{id:Nat}(hg:get h id≠none)(o:AO):EM q h (Co h id o):=by
 intro j hj;rw[CH] at hj;by_cases ej:j=id
 . subst ej;exact .inl hg
 . rw[if_neg ej] at hj;exact .inl hj
theorem Lq.Co(h:Hp)(id:Nat)(o:AO):Lq h (Co h id o):=by
 intro j hj;rw[CH];by_cases ej:j=id
 . rw[if_pos ej];simp
 . rw[if_neg ej];exact hj
theorem Vk{h:Hp}{id:Nat}(j:Nat):get (froze h id) j=match get h j with
   | some (.arr t sz es)=>if j=id then some (.Lo sz es) else some (.arr t sz es)
   | o=>o:=by
 unfold froze;split
 . rename_i t sz es hg;rw[CH];by_cases ej:j=id
   . subst ej;rw[if_pos rfl,hg];simp
   . rw[if_neg ej];cases get h j with
     | none=>rfl
     | some o=>cases o<;>simp[ej]
 . rename_i hg;cases hj:get h j with
   | none=>rfl
   | some o=>cases o with
     | arr t sz es=>
       by_cases ej:j=id
       . subst ej;exact (hg _ _ _ hj).elim
       . simp[ej]
     | _=>rfl
theorem N5{h:Hp}{id j:Nat}:get (froze h id) j≠none↔get h j≠none:=by
 rw[Vk];cases get h j with
 | none=>simp
 | some o=>cases o<;>simp<;>split<;>simp
theorem Io.froze(hn:Io h)(id:Nat):Io (froze h id):=by
 intro j o hj i hi;rw[N5];rw[Vk] at hj;cases hg:get h j with
 | none=>rw[hg] at hj;cases hj
 | some o2=>
   rw[hg] at hj;cases o2 with
   | arr t sz es=>
     simp only at hj;split at hj<;>(cases hj;simp[AO.ids] at hi)
   | Lo sz es=>cases hj;simp[AO.ids] at hi
   | iter l pos=>cases hj;simp[AO.ids] at hi
   | C8 g cs=>cases hj;simp[AO.ids] at hi
   | E4 s=>cases hj;simp[AO.ids] at hi
   | mp l=>cases hj;simp[AO.ids] at hi
   | Dj t e sz k rows hole=>cases hj;simp[AO.ids] at hi
   | box cs ty=>cases hj;exact hn j _ hg i hi
def EF(h h':Hp):Prop:=∀id,get h' id≠none↔get h id≠none
theorem EF.refl(h:Hp):EF h h:=λ _=>Iff.rfl
theorem EF.trans{u9:Hp}(h1:EF h h')(h2:EF h' u9):EF h u9:=λ id=>(h2 id).trans (h1 id)
theorem EF.As2(hk:EF h h'){d:D}:Gj h' d↔Gj h d:=⟨λ hp id hi=>(hk id).1 (hp id hi),λ hp id hi=>(hk id).2 (hp id hi)⟩
theorem EF.Aay(hk:EF h h'){d:List D}:F6 h' d↔F6 h d:=⟨λ hp id hi=>(hk id).1 (hp id hi),λ hp id hi=>(hk id).2 (hp id hi)⟩
theorem Io.Co(hn:Io h){id:Nat}(hg:get h id≠none){o:AO}(ho:o.ids=[]):Io (Co h id o):=by
 intro j o2 hj i hi;rw[CH] at hj;by_cases ej:j=id
 . rw[if_pos ej] at hj;cases hj;rw[ho] at hi;cases hi
 . rw[if_neg ej] at hj;exact Lq.Co h id o i (hn j o2 hj i hi)
theorem EF.Co{id:Nat}(hg:get h id≠none)(o:AO):EF h (Co h id o):=by
 intro j;rw[CH];by_cases ej:j=id
 . subst ej;rw[if_pos rfl];exact ⟨λ _=>hg,λ _=>by simp⟩
 . rw[if_neg ej]
theorem Aj2(hx:HX e h h'){t:TypeId}{d:D}(hd:Gj h d):L6 P h' t d=L6 P h t d:=by
 unfold L6;cases Cx P t with
 | none=>rfl
 | some ti=>cases d with
   | ptr id off=>simp only[hx.eq (hd id (by simp[D.ids]))]
   | ea id i c N=>simp only[hx.eq (hd id (by simp[D.ids]))]
   | Ls id i n=>simp only[hx.eq (hd id (by simp[D.ids]))]
   | _=>rfl
theorem Fa(hx:HX e h h')(hn:Io h){d:D}(hd:Gj h d){k:D×Hp->Prop}(hh:(TG h' d).all k):
   (TG h d).all (λ y=>(∃EO,HX e y.2 EO/\k (y.1,EO))/\Gj h y.1/\Io y.2/\EF h y.2):=by
 have pl:∀x:Pd,Gj h (.p x):=λ x id hi=>by simp[D.ids] at hi
 unfold TG at*;split at hh
 . rename_i id off len N;rw[hx.eq (hd id (by simp[D.ids]))] at hh;split at hh
   . rename_i h1;exact ⟨hh.1,⟨_,hx.froze h1,hh.2⟩,pl _,hn.froze id,λ j=>N5⟩
   . exact ⟨hh.1,⟨_,hx,hh.2⟩,pl _,hn,EF.refl _⟩
   . exact hh.elim
 . rename_i id n;have hid:=hd id (by simp[D.ids]);rw[hx.eq hid] at hh;split at hh
   . exact ⟨hh.1,⟨_,hx.Co _ _,hh.2⟩,pl _,hn.Co hid rfl,EF.Co hid _⟩
   . exact hh.elim
 . exact ⟨hh.1,⟨_,hx,hh.2⟩,pl _,hn,EF.refl _⟩
 . exact ⟨hh.1,⟨_,hx,hh.2⟩,hd,hn,EF.refl _⟩
theorem F6.cons{d:D}{r:List D}:F6 h (d::r)↔Gj h d/\F6 h r:=by
 unfold F6 Gj;simp only[C6,Au];exact ⟨λ hh=>⟨λ id hi=>hh id (.inl hi),λ id hi=>hh id (.inr hi)⟩,λ hh id hi=>hi.elim (hh.1 id) (hh.2 id)⟩
theorem Gj.le{h2:Hp}(hk:Lq h h2){d:D}(hd:Gj h d):Gj h2 d:=λ id hi=>hk id (hd id hi)
theorem F6.le{h2:Hp}(hk:Lq h h2){d:List D}(hd:F6 h d):F6 h2 d:=λ id hi=>hk id (hd id hi)
mutual
theorem Amp:∀{d:D} {h h':Hp} (_:HX e h h') (_:Io h) (_:Gj h d) {k:D×Hp->Prop} (_:(CT h' d).all k),
    (CT h d).all (λ y=>(∃EO,HX e y.2 EO/\k (y.1,EO))/\Gj h y.1/\Io y.2/\EF h y.2)
  | .agg cs,h,h',hx,hn,hd,k,hh=>by
    simp only[CT] at*;refine Rs.Cz (Rs.B7 (λ y hy=>?_) (MY hx hn (ds:=cs) hd (Rs.all_bind hh)));obtain ⟨⟨h1,I3,h2⟩,h3,h4⟩:=hy;exact ⟨h2.1,⟨h1,I3,h2.2⟩,h3,h4⟩
  | .De cs,h,h',hx,hn,hd,k,hh=>by
    simp only[CT] at*;refine Rs.Cz (Rs.B7 (λ y hy=>?_) (MY hx hn (ds:=cs) hd (Rs.all_bind hh)));obtain ⟨⟨h1,I3,h2⟩,h3,h4⟩:=hy;exact ⟨h2.1,⟨h1,I3,h2.2⟩,h3,h4⟩
  | .p _,h,h',hx,hn,hd,k,hh=>by simp only[CT] at*;exact Fa hx hn hd hh
  | .cl _,h,h',hx,hn,hd,k,hh=>by simp only[CT] at*;exact Fa hx hn hd hh
  | .cz _,h,h',hx,hn,hd,k,hh=>by simp only[CT] at*;exact Fa hx hn hd hh
  | .ref _ _ _ _,h,h',hx,hn,hd,k,hh=>by simp only[CT] at*;exact Fa hx hn hd hh
  | .ptr _ _,h,h',hx,hn,hd,k,hh=>by simp only[CT] at*;exact Fa hx hn hd hh
  | .pe _,h,h',hx,hn,hd,k,hh=>by simp only[CT] at*;exact Fa hx hn hd hh
  | .ea _ _ _ _,h,h',hx,hn,hd,k,hh=>by simp only[CT] at*;exact Fa hx hn hd hh
  | .fn _ _,h,h',hx,hn,hd,k,hh=>by simp only[CT] at*;exact Fa hx hn hd hh
  | .np,h,h',hx,hn,hd,k,hh=>by simp only[CT] at*;exact Fa hx hn hd hh
  | .mv _,h,h',hx,hn,hd,k,hh=>by simp only[CT] at*;exact Fa hx hn hd hh
  | .Dk _ _,h,h',hx,hn,hd,k,hh=>by simp only[CT] at*;exact Fa hx hn hd hh
  | .Ls _ _ _,h,h',hx,hn,hd,k,hh=>by simp only[CT] at*;exact Fa hx hn hd hh
  | .nr _ _ _ _,h,h',hx,hn,hd,k,hh=>by simp only[CT] at*;exact Fa hx hn hd hh
  | .PU,h,h',hx,hn,hd,k,hh=>by simp only[CT] at*;exact Fa hx hn hd hh
  | .bad,h,h',hx,hn,hd,k,hh=>by simp only[CT] at*;exact Fa hx hn hd hh
theorem MY:∀{ds:List D} {h h':Hp} (_:HX e h h') (_:Io h) (_:F6 h ds) {k:List D×Hp->Prop} (_:(Gi h' ds).all k),
    (Gi h ds).all (λ y=>(∃EO,HX e y.2 EO/\k (y.1,EO))/\F6 h y.1/\Io y.2/\EF h y.2)
  | [],h,h',hx,hn,hd,k,hh=>by simp only[Gi] at*;exact ⟨hh.1,⟨_,hx,hh.2⟩,hd,hn,EF.refl _⟩
  | d::r,h,h',hx,hn,hd,k,hh=>by
    simp only[Gi] at*;obtain ⟨Vh,I8⟩:=F6.cons.1 hd;refine Rs.Cz (Rs.B7 (λ y hy=>?_) (Amp hx hn Vh (Rs.all_bind hh)));obtain ⟨⟨h1,I3,h2⟩,hp1,r9,Qq⟩:=hy;refine Rs.Cz (Rs.B7 (λ z hz=>?_) (MY I3 r9 (Qq.Aay.2 I8) (Rs.all_bind h2)));obtain ⟨⟨h3,r4,h4⟩,JT,hn2,Jj⟩:=hz;exact ⟨h4.1,⟨h3,r4,h4.2⟩,F6.cons.2 ⟨hp1,Qq.Aay.1 JT⟩,hn2,Qq.trans Jj⟩
end
theorem Aoa(hx:HX e h h')(hn:Io h){d:D}(hd:Gj h d){k:Pd×Hp->Prop}(hh:(Uc h' d).all k):
   (Uc h d).all (λ y=>(∃EO,HX e y.2 EO/\k (y.1,EO))/\Io y.2/\EF h y.2):=by
 unfold Uc at*;split at hh
 . exact ⟨hh.1,⟨_,hx,hh.2⟩,hn,EF.refl _⟩
 . exact ⟨hh.1,⟨_,hx,hh.2⟩,hn,EF.refl _⟩
 . exact ⟨hh.1,⟨_,hx,hh.2⟩,hn,EF.refl _⟩
 . rename_i id off len N;rw[hx.eq (hd id (by simp[D.ids]))] at hh;split at hh
   . rename_i h1;exact ⟨hh.1,⟨_,hx.froze h1,hh.2⟩,hn.froze id,λ j=>N5⟩
   . exact ⟨hh.1,⟨_,hx,hh.2⟩,hn,EF.refl _⟩
   . exact hh.elim
 . rename_i id n;have hid:=hd id (by simp[D.ids]);rw[hx.eq hid] at hh;split at hh
   . exact ⟨hh.1,⟨_,hx.Co _ _,hh.2⟩,hn.Co hid rfl,EF.Co hid _⟩
   . exact hh.elim
 . exact hh.elim
theorem Sv:∀{ds:List D} {h h':Hp} (_:HX e h h') (_:Io h) (_:F6 h ds) {k:List Pd×Hp->Prop} (_:(HZ h' ds).all k),
   (HZ h ds).all (λ y=>(∃EO,HX e y.2 EO/\k (y.1,EO))/\Io y.2/\EF h y.2)
 | [],h,h',hx,hn,hd,k,hh=>by simp only[HZ] at*;exact ⟨hh.1,⟨_,hx,hh.2⟩,hn,EF.refl _⟩
 | d::r,h,h',hx,hn,hd,k,hh=>by
   simp only[HZ] at*;obtain ⟨Vh,I8⟩:=F6.cons.1 hd;refine Rs.Cz (Rs.B7 (λ y hy=>?_) (Aoa hx hn Vh (Rs.all_bind hh)));obtain ⟨⟨h1,I3,h2⟩,r9,Qq⟩:=hy;refine Rs.Cz (Rs.B7 (λ z hz=>?_) (Sv I3 r9 (Qq.Aay.2 I8) (Rs.all_bind h2)));obtain ⟨⟨h3,r4,h4⟩,hn2,Jj⟩:=hz;exact ⟨h4.1,⟨h3,r4,h4.2⟩,hn2,Qq.trans Jj⟩
theorem Aao(hx:HX e h h'){d:D}(hd:Gj h d):R7 h' d=R7 h d:=by
 unfold R7;split
 . rfl
 . rfl
 . rfl
 . rename_i id off len N;rw[hx.eq (hd id (by simp[D.ids]))]
 . rfl
def Beh(e h:Hp)(q:Option Nat)(k:D×Hp->Prop)(y:D×Hp):Prop:=(∃EO,HX e y.2 EO/\k (y.1,EO))/\EM q h y.2
theorem Apz(hx:HX e h h'){q:Nat}{t t2:TypeId}{s x:D}(hs:Gj h s)(hd:Gj h x){k:D×Hp->Prop}(hh:(TN P h' q t t2 s x).all k):(TN P h q t t2 s x).all (Beh e h (some q) k):=by
 unfold TN at*;split at hh
 case h_2=>exact hh.elim
 split at hh
 case h_2=>exact hh.elim
 rw[Aao hx hd] at hh;refine Rs.Cz (Rs.B7 (λ ys hy=>?_) (Rs.all_bind hh));split at hy
 . obtain ⟨⟨a1,a2,a3,a4,a5,a6⟩,hk⟩:=hy;refine ⟨⟨a1,a2,a3,a4,hx.nn' a5,a6⟩,⟨_,hx.cons _ _,hk⟩,λ j hj=>?_⟩;rw[Cb] at hj;split at hj
   . rename_i ej;exact .inr (.inl (by rw[ej]))
   . exact .inl hj
 . obtain ⟨⟨a1,a2,a3,a4,a5,a6⟩,hk⟩:=hy;refine ⟨⟨a1,a2,a3,a4,hx.nn' a5,a6⟩,⟨_,hx.cons _ _,hk⟩,λ j hj=>?_⟩;rw[Cb] at hj;split at hj
   . rename_i ej;exact .inr (.inl (by rw[ej]))
   . exact .inl hj
 . rename_i id off len N;have hid:=hs id (by simp[D.ids]);rw[hx.eq hid] at hy;obtain ⟨h0,hy⟩:=NF hy;refine UE h0 ?_;split at hy
   . exact ⟨hy.1,⟨_,hx.Co _ _,hy.2⟩,EM.Co hid _⟩
   . exact hy.elim
 . rename_i id i len kk;have hid:=hs id (by simp[D.ids]);rw[hx.eq hid] at hy;split at hy
   . obtain ⟨⟨a1,a2,a3,a4,⟨b1,b2,b3,b4,b5,b6⟩,a5⟩,hk⟩:=hy;refine ⟨⟨a1,a2,a3,a4,⟨b1,b2,b3,b4,b5,hx.nn' b6⟩,a5⟩,⟨_,(hx.Co _ _).cons _ _,hk⟩,λ j hj=>?_⟩;rw[Cb] at hj;split at hj
     . rename_i ej;exact .inr (.inl (by rw[ej]))
     . exact EM.Co hid _ j hj
   . exact hy.elim
 . exact hy.elim
theorem Amc(hx:HX e h h'){q:Nat}{t:TypeId}{s x:D}(hs:Gj h s)(hd:Gj h x){k:D×Hp->Prop}(hh:(Mt P h' t s x).all k):(Mt P h t s x).all (Beh e h (some q) k):=by
 unfold Mt at*;split at hh
 case h_2=>exact hh.elim
 split at hh
 case h_2=>exact hh.elim
 rw[Aao hx hd] at hh;refine Rs.Cz (Rs.B7 (λ ys hy=>?_) (Rs.all_bind hh));split at hy
 case h_2=>exact hy.elim
 rename_i id off len N;have hid:=hs id (by simp[D.ids]);rw[hx.eq hid] at hy;split at hy
 . exact ⟨hy.1,⟨_,hx.Co _ _,hy.2⟩,EM.Co hid _⟩
 . exact hy.elim
theorem Q7(a b:List D):C6 (a++b)=C6 a++C6 b:=by
 induction a with
 | nil=>rfl
 | cons d r ih=>simp[C6,ih]
theorem Z0{d:D}{cs:List D}(hs:d.stored=some cs):C6 cs=d.ids:=by
 unfold D.stored at hs;split at hs
 . cases hs;cases d<;>simp[D.cells,D.ids,C6]
 . cases hs
theorem Adg(hx:HX e h h'){t:TypeId}{m i v:D}(hm:Gj h m){k:Hp->Prop}(hh:(JK P h' t m i v).all k):
   (JK P h t m i v).all (λ y=>(∃EO,HX e y EO/\k EO)/\EM none h y):=by
 unfold JK at*;split at hh
 . rename_i id key x h0;have hid:=hm id (by simp[D.ids]);rw[hx.eq hid] at hh;split at hh
   . exact ⟨hh.1,⟨_,hx.Co _ _,hh.2⟩,EM.Co hid _⟩
   . exact hh.elim
 . exact hh.elim
theorem Wl(hx:HX e h h'){id i n:Nat}{v:D}(ha:get h id≠none)(hv:Gj h v){k:Hp->Prop}(hh:(Fj h' id i n v).all k):
   (Fj h id i n v).all (λ y=>(∃EO,HX e y EO/\k EO)/\EM none h y):=by
 unfold Fj at*;split at hh
 . rename_i q off len N;have hq:=hv q (by simp[D.ids]);rw[hx.eq hq,hx.eq ha] at hh;split at hh
   . refine ⟨hh.1,⟨_,(hx.Co _ _).Co _ _,hh.2⟩,(EM.Co ha _).trans (EM.Co (Lq.Co _ _ _ _ hq) _)⟩
   . exact hh.elim
 . exact hh.elim
theorem Acg(hx:HX e h h')(hn:Io h){t:TypeId}{a v:D}(ha:Gj h a)(hv:Gj h v){k:Hp->Prop}(hh:(JE P h' t a v).all k):
   (JE P h t a v).all (λ y=>(∃EO,HX e y EO/\k EO)/\EM none h y):=by
 unfold JE at*;split at hh
 case h_2=>exact hh.elim
 split at hh
 case h_2=>exact hh.elim
 rename_i II;split at hh
 . rename_i id off;have hid:=ha id (by simp[D.ids]);rw[hx.eq hid] at hh;split at hh
   . exact ⟨hh.1,⟨_,hx.Co _ _,hh.2⟩,EM.Co hid _⟩
   . exact hh.elim
 . rename_i id i c N;have hid:=ha id (by simp[D.ids]);refine Rs.Cz (Rs.B7 (λ y hy=>?_) (Sv hx hn (λ j hj=>hv j (by rw[<-Z0 II];exact hj)) (Rs.all_bind hh)));obtain ⟨⟨h1,I3,hy⟩,r9,Qq⟩:=hy;have Aw6:=(Qq id).2 hid;rw[I3.eq Aw6] at hy;split at hy
   . exact ⟨hy.1,⟨_,I3.Co _ _,hy.2⟩,λ j hj=>by
       rcases EM.Co (q:=none) Aw6 _ j hj with h3 | h3 | h3
       . exact .inl ((Qq j).1 h3)
       . cases h3
       . exact .inr (.inr h3)⟩
   . exact hy.elim
 . rename_i id i n;have hid:=ha id (by simp[D.ids]);exact Rs.PC (Rs.Eo hh).1 (Wl hx hid hv (Rs.Eo hh).2)
 . exact hh.elim
end
end Go.Am
namespace Go.Am
open Go
def isQ(o:Op):Bool:=
 match o with
 | .call c=>match c.callee with
   | .value _=>true
   | .builtin .append | .builtin .copy=>true
   | _=>false
 | .store _ _ _=>true
 | .slice _ _ _ _ _=>true
 | .buildSlice _ _ _=>true
 | .load _ _=>true
 | .mapUpdate _ _ _ _=>true
 | _=>false
section
variable {P:Program} {e h h':Hp}
theorem HL:∀(l T:List Nat) (id:Nat),id∈Fc T l->id∈T∨id∈l
 | [],T,id,hi=> .inl hi
 | i::r,T,id,hi=>by
   simp only[Fc] at hi;split at hi
   . rcases HL r T id hi with h1 | h1
     . exact .inl h1
     . exact .inr (by simp[h1])
   . rcases HL r _ id hi with h1 | h1
     . rcases Au.1 h1 with h2 | h2
       . exact .inl h2
       . simp only[Av] at h2;exact .inr (by simp[h2])
     . exact .inr (by simp[h1])
theorem N0(hn:Io h):∀(l:List Nat) (id:Nat),id∈Iq h l->get h id≠none
 | [],id,hi=>by simp[Iq] at hi
 | i::r,id,hi=>by
   simp only[Iq,Au] at hi;rcases hi with h1 | h1
   . cases ho:get h i with
     | none=>rw[ho] at h1;simp at h1
     | some o=>rw[ho] at h1;exact hn i o ho id h1
   . exact N0 hn r id h1
theorem Zi(hn:Io h){ids:List Nat}(hp:∀id∈ids,get h id≠none):∀id∈DF h ids,get h id≠none:=by
 intro id hi;unfold DF at hi;simp only at hi;rcases HL _ _ _ hi with h0 | h0
 . rcases HL _ _ _ h0 with h1 | h1
   . rcases HL _ _ _ h1 with h2 | h2
     . rcases HL _ _ _ h2 with h3 | h3
       . simp at h3
       . exact hp id h3
     . exact N0 hn _ _ h2
   . exact N0 hn _ _ h1
 . have hg:∀j,id∈ghost h j->get h id≠none:=by
     intro j hj;unfold ghost at hj;split at hj
     . rename_i hgj;simp only[Av] at hj;subst hj;rw[hgj];simp
     . simp at hj
   simp only[Qz,Au] at h0;rcases h0 with h0 | h0 | h0 | h0<;>exact hg _ h0
theorem YG(hx:HX e h h'){q:Nat}:∀(l:Hp),fresh q h' l->fresh q h l
 | [],_=>trivial
 | (j,_)::r,hf=>⟨hf.1.imp id λ h1=>hx.nn' h1,YG hx r hf.2⟩
theorem Amk(hx:HX e h h')(he:∀id,get e id≠none->id<10000)(hn:Io h){f:FuncId}{ds:List D}(hd:F6 h ds){q:Nat}{k:D->Hp->Prop}(hh:Hy P h' f ds q k):
   Hy P h f ds q (λ d y=>(∃EO,HX e y EO/\k d EO)/\EM none h y):=by
 have hp:=Zi hn hd;have hs:∀id∈DF h (C6 ds),(get h id).isSome=true:=λ id hi=>by
   have:=hp id hi;cases hg:get h id with
   | none=>exact (this hg).elim
   | some o=>rfl
 unfold Hy at*;rw[VN hx he _ hs] at hh;obtain ⟨h1,h2,h3⟩:=hh;refine ⟨h1,AB.2 hs,?_⟩;rw[ZY hx _ _ _ hs] at h3;refine h3.mono λ h2 r ⟨hf,hk⟩=>⟨YG hx h2 hf,⟨_,OU hx _ _ _,hk⟩,?_⟩;intro i hi;have key:∀(l:Hp),get (merge (DF h (C6 ds)) q h l) i≠none->get h i≠none∨some i=none∨10000<=i:=by
   intro l
   induction l with
   | nil=>intro h4;exact .inl h4
   | cons x r ih=>
     obtain ⟨j,o⟩:=x;intro h4;simp only[merge] at h4;split at h4
     . rename_i id hid;rw[CH] at h4;by_cases ej:i=id
       . subst ej;unfold back at hid;split at hid
         . exact .inl (hp i (AS hid))
         . simp only[Al] at hid;exact .inr (.inr (by omega))
       . rw[if_neg ej] at h4;exact ih h4
     . exact ih h4
 exact key h2 hi
theorem Ami{env:List (Nat×D)}{n:Nat}(hx:HX e h h')(hn:Io h){f:Operand}{args:List Operand}(hf:Gj h (ev ⟨env,h,n⟩ f))(ha:∀x∈args,Gj h (ev ⟨env,h,n⟩ x))
   {k:FuncId×List D×Hp->Prop} (hh:(GV ⟨env,h',n⟩ f args).all k):
   (GV ⟨env,h,n⟩ f args).all (λ y=>(∃EO,HX e y.2.2 EO/\k (y.1,y.2.1,EO))/\F6 y.2.2 y.2.1/\Io y.2.2/\EF h y.2.2):=by
 have ef:ev ⟨env,h',n⟩=ev ⟨env,h,n⟩:=funext λ _=>rfl;unfold GV at*;rw[ef] at hh;have Ir:F6 h (args.map (ev ⟨env,h,n⟩)):=by
   intro id hi;clear hh
   induction args with
   | nil=>simp[C6] at hi
   | cons x r ih=>
     simp only[AD,C6,Au] at hi;rcases hi with h1 | h1
     . exact ha x (by simp) id h1
     . exact ih (λ y hy=>ha y (by simp[hy])) h1
 split at hh
 . rename_i g cap he;rw[he] at hf;have DZ:F6 h (args.map (ev ⟨env,h,n⟩)++cap):=by
     intro id hi;rw[Q7,Au] at hi;rcases hi with h1 | h1
     . exact Ir id h1
     . exact hf id h1
   refine Rs.Cz (Rs.B7 (λ y hy=>?_) (MY hx hn DZ (Rs.all_bind hh)));obtain ⟨⟨h1,I3,h2⟩,hp1,r9,Qq⟩:=hy;exact ⟨h2.1,⟨h1,I3,h2.2⟩,Qq.Aay.2 hp1,r9,Qq⟩
 . exact hh.elim
theorem Dg(st:St)(t:Option Nat)(d:D):(st.put t d).hp=st.hp:=by
 cases t with
 | none=>rfl
 | some t=>simp only[St.put];split<;>rfl
theorem Su{K:St->Prop}{env:List (Nat×D)}{n:Nat}{dst:Option Nat}(y h2:Hp)(d:D)(hk:K ((⟨env,h2,n⟩:St).put dst d)):K {(⟨env,y,n⟩:St).put dst d with hp:=h2}:=by
 cases dst with
 | none=>exact hk
 | some t=>
   simp only[St.put] at hk ⊢;split
   . rename_i ht;rw[if_pos ht] at hk;exact hk
   . rename_i ht;rw[if_neg ht] at hk;exact hk
theorem Agn(d:D):C6 d.cells=d.ids:=by cases d<;>simp[D.cells,D.ids,C6]
theorem SU{l:List D}{d:D}(h:d∈l):∀i∈d.ids,i∈C6 l:=by
 induction l with
 | nil=>cases h
 | cons x r ih=>
   intro i hi;simp only[C6,Au];rcases AE.1 h with rfl | h
   . exact .inl hi
   . exact .inr (ih h i hi)
theorem Qj{l:List D}{i:Nat}:i∈C6 l->∃d∈l,i∈d.ids:=by
 induction l with
 | nil=>intro h;simp[C6] at h
 | cons x r ih=>
   intro h;simp only[C6,Au] at h;rcases h with h | h
   . exact ⟨x,by simp,h⟩
   . obtain ⟨d,hd,hi⟩:=ih h;exact ⟨d,by simp[hd],hi⟩
theorem Tg{h:Hp}{place:Nat->Option (Nat×Nat)}:∀(ps:List (Nat×D)) (cells cs:List D),(∀x∈ps,Gj h x.2)->F6 h cells->Gt place cells ps=some cs->F6 h cs
 | [],cells,cs,_,hc,hf=>by simp only[Gt,Al] at hf;subst hf;exact hc
 | (i,d)::r,cells,cs,hp,hc,hf=>by
   simp only[Gt] at hf;split at hf
   . cases hf
   . split at hf
     . refine Tg r _ cs (λ x hx=>hp x (by simp[hx])) ?_ hf;intro id hi;obtain ⟨d2,I8,EG⟩:=Qj hi;rcases Au.1 I8 with h1 | h1
       . rcases Au.1 h1 with h2 | h2
         . exact hc id (SU (BK h2) id EG)
         . have:=SU h2 id EG;rw[Agn] at this;exact hp (i,d) (by simp) id this
       . exact hc id (SU (List.mem_of_mem_drop h1) id EG)
     . cases hf
theorem Arn{env:List (Nat×D)}{n:Nat}(hx:HX e h h')(he:∀id,get e id≠none->id<10000)(hn:Io h){o:Oper}(hq:isQ o.op=true)(ho:∀x∈o.op.operands.toList,Gj h (ev ⟨env,h,n⟩ x)){K:St->Prop}(hh:PT P false o K ⟨env,h',n⟩):
   PT P false o (λ st=>(∃EO,HX e st.hp EO/\K {st with hp:=EO})/\EM (some (o.dst.getD 0)) h st.hp) ⟨env,h,n⟩:=by
 have ef:ev ⟨env,h',n⟩=ev ⟨env,h,n⟩:=funext λ _=>rfl;unfold PT at*;split at hh
 . rename_i f args hc;rcases Rs.FL hh with hh | hh
   case inr=>exact (AI hh.1).elim
   have Kj:(∀x∈f::args,x∈o.op.operands.toList):=by
     unfold C4 at hc;split at hc
     case h_2=>cases hc
     rename_i cl PJ;split at hc
     case h_2=>cases hc
     rename_i f' u4;simp only[Al,Prod.mk.injEq] at hc;obtain ⟨rfl,rfl⟩:=hc;intro x hxm;rw[PJ];simp[Op.operands,Call.operands,u4] at hxm ⊢;exact hxm
   simp only[K5] at hh ⊢;refine Rs.E1 (Rs.B7 (λ x H4=>?_) (Ami hx hn (ho f (Kj f (by simp))) (λ x r4=>ho x (Kj x (by simp[r4]))) hh));obtain ⟨⟨h1,I3,hc⟩,hp1,r9,Qq⟩:=H4;refine Oj (λ d y hy=>?_) (Amk I3 he r9 hp1 hc);obtain ⟨⟨h2,H4,hk⟩,Mf⟩:=hy;refine ⟨⟨h2,by rw[Dg];exact H4,Su _ _ _ hk⟩,λ i hi=>?_⟩;rw[Dg] at hi;rcases Mf i hi with h3 | h3 | h3
   . exact .inl ((Qq i).1 h3)
   . cases h3
   . exact .inr (.inr h3)
 . rcases Rs.FL hh with hh | hh
   case inr=>exact (AI hh.1).elim
   have fin:∀{r:Rs (D×Hp)},r.all (Beh e h (some (o.dst.getD 0)) λ x=>K ((⟨env,x.2,n⟩:St).put o.dst x.1))->
       r.Jg (false=true/\Ny P o (λ st=>(∃EO,HX e st.hp EO/\K {st with hp:=EO})/\EM (some (o.dst.getD 0)) h st.hp) ⟨env,h,n⟩) (λ x=>(λ st:St=>(∃EO,HX e st.hp EO/\K {st with hp:=EO})/\EM (some (o.dst.getD 0)) h st.hp) ((⟨env,x.2,n⟩:St).put o.dst x.1)):=λ hr=>
     Rs.E1 (Rs.B7 (λ x H4=>by
       obtain ⟨⟨h1,I3,hk⟩,Mf⟩:=H4;exact ⟨⟨h1,by rw[Dg];exact I3,Su _ _ _ hk⟩,by rw[Dg];exact Mf⟩) hr)
   refine fin ?_;cases Kj:o.op with
   | call cl=>
     cases PJ:cl.callee with
     | builtin b=>
       cases b<;>rw[Kj] at hq<;>simp only[isQ,PJ,AJ] at hq
       . simp only[JQ,Kj,PJ,ef] at hh ⊢;have Ir:∀x∈cl.args.toList,Gj h (ev ⟨env,h,n⟩ x):=λ x r4=>ho x (by rw[Kj];simp[Op.operands,Call.operands,PJ];simpa using r4);generalize hl:cl.args.toList.map (ev ⟨env,h,n⟩)=l at hh ⊢;rcases l with _ | ⟨s,_ | ⟨x,_ | ⟨z,r⟩⟩⟩
         . exact hh.elim
         . cases s<;>first | exact hh.elim | (rename_i z;cases z<;>exact hh.elim)
         . obtain ⟨sq,xq,Hn,rfl,rfl⟩:=H3 hl;have hb3:∀hz:Hp,EZ P ⟨env,hz,n⟩ (o.dst.getD 0) .append cl.argTypes [ev ⟨env,h,n⟩ sq,ev ⟨env,h,n⟩ xq]=match cl.argTypes[0]?,cl.argTypes[1]? with
             | some t,some t2=>TN P hz (o.dst.getD 0) t t2 (ev ⟨env,h,n⟩ sq) (ev ⟨env,h,n⟩ xq)
             | _,_=> .fail:=λ _=>rfl
           rw[hb3] at hh ⊢;split at hh
           . rename_i t t2 h1 h2;exact Apz hx (Ir sq (by rw[Hn];simp)) (Ir xq (by rw[Hn];simp)) hh
           . exact hh.elim
         . first | exact hh.elim | (cases s<;>first | exact hh.elim | (rename_i z1;cases z1<;>exact hh.elim))
       . simp only[JQ,Kj,PJ,ef] at hh ⊢;have Ir:∀x∈cl.args.toList,Gj h (ev ⟨env,h,n⟩ x):=λ x r4=>ho x (by rw[Kj];simp[Op.operands,Call.operands,PJ];simpa using r4);generalize hl:cl.args.toList.map (ev ⟨env,h,n⟩)=l at hh ⊢;rcases l with _ | ⟨s,_ | ⟨x,_ | ⟨z,r⟩⟩⟩
         . exact hh.elim
         . cases s<;>first | exact hh.elim | (rename_i z;cases z<;>exact hh.elim)
         . obtain ⟨sq,xq,Hn,rfl,rfl⟩:=H3 hl;have hb3:∀hz:Hp,EZ P ⟨env,hz,n⟩ (o.dst.getD 0) .copy cl.argTypes [ev ⟨env,h,n⟩ sq,ev ⟨env,h,n⟩ xq]=match cl.argTypes[0]?,cl.argTypes[1]? with
             | some t,some _=>Mt P hz t (ev ⟨env,h,n⟩ sq) (ev ⟨env,h,n⟩ xq)
             | _,_=> .fail:=λ _=>rfl
           rw[hb3] at hh ⊢;split at hh
           . rename_i t t2 h1 h2;exact Amc hx (Ir sq (by rw[Hn];simp)) (Ir xq (by rw[Hn];simp)) hh
           . exact hh.elim
         . first | exact hh.elim | (cases s<;>first | exact hh.elim | (rename_i z1;cases z1<;>exact hh.elim))
     | _=>rw[Kj] at hq;rename_i hc _;simp only[isQ,PJ,AJ] at hq<;>simp_all [C4]
   | store t a v=>
     simp only[JQ,Kj,KU,ef] at hh ⊢;have h1:=Acg hx hn (ho a (by rw[Kj];simp[Op.operands])) (ho v (by rw[Kj];simp[Op.operands])) (Rs.all_bind hh);refine Rs.Cz (Rs.B7 (λ y hy=>?_) h1);obtain ⟨⟨h2,H4,hk⟩,Mf⟩:=hy;refine ⟨hk.1,⟨h2,H4,hk.2⟩,λ i hi=>?_⟩;rcases Mf i hi with h3 | h3 | h3
     . exact .inl h3
     . cases h3
     . exact .inr (.inr h3)
   | slice t x lo hi mx=>
     have hp:=ho x (by rw[Kj];simp[Op.operands]);have r7:HA P ⟨env,h',n⟩ t (ev ⟨env,h,n⟩ x) lo hi mx=HA P ⟨env,h,n⟩ t (ev ⟨env,h,n⟩ x) lo hi mx:=by
       have hb:∀o d,D8 ⟨env,h',n⟩ o d=D8 ⟨env,h,n⟩ o d:=λ o d=>by cases o<;>rfl
       generalize ev ⟨env,h,n⟩ x=d at hp;unfold HA;simp only[hb];rcases Cx P t with _ | ⟨s1,b1,k1,z1⟩
       . rfl
       cases k1 with
       | string=>cases d with
         | p y=>cases y<;>rfl
         | _=>rfl
       | slice e=>
         simp only;cases Cx P e with
         | none=>rfl
         | some ti=>cases d with
           | p y=>cases y<;>rfl
           | ref id off len N=>
             have:sg h' id=sg h id:=by simp only[sg,hx.eq (hp id (by simp[D.ids]))]
             simp only[this]
           | _=>rfl
       | _=>rfl
     simp only[JQ,Kj,JC,ef] at hh ⊢;rw[r7] at hh;have h1:=Rs.all_bind hh;refine Rs.Cz (Rs.B7 (λ y hy=>?_) h1);exact ⟨hy.1,⟨h',hx,hy.2⟩,EM.refl _ _⟩
   | buildSlice t n2 ps=>
     have hps:∀x∈ps.toList.map (λ q=>(q.1,ev ⟨env,h,n⟩ q.2)),Gj h x.2:=λ x r4=>by
       obtain ⟨q,hq3,rfl⟩:=AN.1 r4;exact ho q.2 (by rw[Kj];simp[Op.operands];exact ⟨q.1,by simpa using hq3⟩)
     simp only[JQ,Kj,KU,ef] at hh ⊢;split at hh
     . split at hh
       . split at hh
         . rename_i cs u6;have hpc:F6 h cs:=Tg _ _ _ hps (λ id hi=>by
             obtain ⟨d2,I8,EG⟩:=Qj hi;rw[List.mem_replicate] at I8;rw[I8.2] at EG;simp[D.ids] at EG) u6
           split at hh
           . exact hh.elim
           rename_i hnr;rw[if_neg hnr];refine Rs.Cz (Rs.B7 (λ y hy=>?_) (Sv hx hn hpc (Rs.all_bind hh)));obtain ⟨⟨h2,H4,hk⟩,hn2,Jj⟩:=hy;refine ⟨⟨hk.1.1,hk.1.2.1,H4.nn' hk.1.2.2⟩,⟨_,H4.cons _ _,hk.2⟩,λ i hi=>?_⟩;rw[Cb] at hi;split at hi
           . rename_i ej;exact .inr (.inl (by rw[ej]))
           . exact .inl ((Jj i).1 hi)
         . exact hh.elim
       . exact hh.elim
     . exact hh.elim
   | mapUpdate t m i x=>
     simp only[JQ,Kj,KU,ef] at hh ⊢;have h1:=Adg hx (ho m (by rw[Kj];simp[Op.operands])) (Rs.all_bind hh);refine Rs.Cz (Rs.B7 (λ y hy=>?_) h1);obtain ⟨⟨h2,H4,hk⟩,Mf⟩:=hy;refine ⟨hk.1,⟨h2,H4,hk.2⟩,λ i hi=>?_⟩;rcases Mf i hi with h3 | h3 | h3
     . exact .inl h3
     . cases h3
     . exact .inr (.inr h3)
   | load t a=>
     have hp:=ho a (by rw[Kj];simp[Op.operands]);simp only[JQ,Kj,JC,ef] at hh ⊢;rw[Aj2 hx hp] at hh;have h1:=Rs.all_bind hh;refine Rs.Cz (Rs.B7 (λ y hy=>?_) h1);exact ⟨hy.1,⟨h',hx,hy.2⟩,EM.refl _ _⟩
   | _=>rw[Kj] at hq;simp[isQ] at hq
end
end Go.Am
namespace Go.Am
open Go
mutual
def TR (h:Hp):D->D->Prop
  | .p x,d=>d= .p x
  | .cl es,d=>d= .p (.sl es)
  | .ref id off len N,d=>match get h id with
    | some (.arr _ _ es)=>N=es.length/\d= .p (.sl ((es.drop off).take len))
    | some (.Lo _ es)=>N=es.length/\d= .p (.sl ((es.drop off).take len))
    | _=>False
  | .Dk id n,d=>match get h id with
    | some (.Dj _ _ _ _ rows none)=>n=rows.length/\d= .p (.sl (rows.map λ r=>[.sl r]))
    | _=>False
  | .nr id i len k,d=>match get h id with
    | some (.Dj _ _ _ k2 rows none)=>(k=k2/\i<rows.length/\len=(rows.getD i []).length)/\d= .p (.sl (rows.getD i []))
    | _=>False
  | .agg cs,.agg cs'=>KC h cs cs'
  | .fn f cap,.fn f' Amh=>f'=f/\KC h cap Amh
  | _,_=>False
def KC (h:Hp):List D->List D->Prop
  | [],[]=>True
  | d::r,d'::r'=>TR h d d'/\KC h r r'
  | _,_=>False
end
def D.Vs:D->Bool
 | .p x=>x.flat
 | _=>false
def D.flat:D->Bool
 | .p x=>x.flat
 | .De cs=>cs.all D.Vs
 | .agg cs=>cs.all D.Vs
 | _=>false
mutual
def D.Hr:D->D
  | .p x=>if x.flat then .p x else .PU
  | .agg cs=> .agg (Ib cs)
  | .De cs=> .De (Ib cs)
  | _=> .bad
def Ib:List D->List D
  | []=>[]
  | d::r=>d.Hr::Ib r
end
theorem NH:∀cs:List D,(Ib cs).length=cs.length
 | []=>rfl
 | _::r=>by simp[Ib,NH r]
theorem NJ:∀(cs:List D) (i:Nat),(Ib cs)[i]?=(cs[i]?).map D.Hr
 | [],i=>by simp[Ib]
 | d::r,0=>by simp[Ib]
 | d::r,i+1=>by simp[Ib,NJ r i]
theorem QV:∀{d:D},d.Vs=true->d.Hr=d
 | .p x,h=>by simp only[D.Vs] at h;simp[D.Hr,h]
 | .agg _,h | .De _,h | .cl _,h | .cz _,h | .ref _ _ _ _,h | .ptr _ _,h | .pe _,h | .ea _ _ _ _,h | .fn _ _,h | .np,h | .mv _,h | .Dk _ _,h | .Ls _ _ _,h | .nr _ _ _ _,h | .PU,h | .bad,h=>by simp[D.Vs] at h
theorem LL:∀{cs:List D},cs.all D.Vs=true->Ib cs=cs
 | [],_=>rfl
 | d::r,h=>by
   simp only[List.all_cons,Ar] at h;simp[Ib,QV h.1,LL h.2]
theorem Se{d:D}(h:d.flat=true):d.Hr=d:=by
 cases d with
 | p x=>exact QV h
 | agg cs=>simp only[D.flat] at h;simp[D.Hr,LL h]
 | De cs=>simp only[D.flat] at h;simp[D.Hr,LL h]
 | _=>simp[D.flat] at h
section
variable {F F':Nat->Prop} {w w':World} {M M':Nat->Mb} {s s':Nat->Option Sg} {h h' e:Hp}
theorem DR.Hr{d:D}{v:Value}(hr:DR F w M s d v):DR F' w' M' s' d.Hr v:=by
 induction hr with
 | p hp=>
   simp only[D.Hr];split
   . rename_i hf;cases hp with
     | int k n=>exact .p (.int k n)
     | bool b=>exact .p (.bool b)
     | str l=>exact .p (.str l)
     | UK a cap=>simp[Pd.flat] at hf
     | sl es b off cap sz row t fr _ _ _ _ _ _=>simp[Pd.flat] at hf
   . exact .PU _ hp.Ju
 | agg cs vs hl hc ih=>
   simp only[D.Hr];refine .agg _ vs (by rw[NH];exact hl) λ i c hi=>?_;rw[NJ] at hi;cases hg:cs[i]? with
   | none=>rw[hg] at hi;cases hi
   | some x=>rw[hg] at hi;cases hi;exact ih i x hg
 | De cs vs hl hc ih=>
   simp only[D.Hr];refine .De _ vs (by rw[NH];exact hl) λ i c hi=>?_;rw[NJ] at hi;cases hg:cs[i]? with
   | none=>rw[hg] at hi;cases hi
   | some x=>rw[hg] at hi;cases hi;exact ih i x hg
 | _=>simp only[D.Hr];exact .bad _
def Abv(F:Nat->Prop)(M:Nat->Mb)(h:Hp):Nat->Prop:=λ b=>F b∨Ev M h b
mutual
theorem Ah9 (hr:HR F w M h):∀(d d':D) {v:Value},DR F w M (sg h) d v->TR h d d'->DR (Abv F M h) w M (sg []) d' v
  | .p x,d',v,hd,hb=>by
    simp only[TR] at hb;subst hb;cases hd with | p hp=>exact .p (hp.keep (λ _ _=>rfl) λ b hb=> .inl hb)
  | .cl es,d',v,hd,hb=>by
    simp only[TR] at hb;subst hb;cases hd with | cl _ ad hp _=>exact .p (hp.keep (λ _ _=>rfl) λ b hb=> .inl hb)
  | .ref id off len N,d',v,hd,hb=>by
    simp only[TR] at hb;cases hd with | ref _ _ _ _ sz n _ hs hN hv hx=>
      split at hb
      . rename_i t Ot es ho;obtain ⟨RD,rfl⟩:=hb;have:Ot=sz/\es.length=n:=by simpa [sg,ho,AO.sg] using hs
        obtain ⟨rfl,rfl⟩:=this;exact .p (Jr (st:=⟨[],h,0⟩) hr (.inl ⟨t,ho⟩) rfl (hx RD) (λ b hb=> .inl hb) λ hc=> .inr ⟨id,_,ho,hc,rfl⟩)
      . rename_i Ot es ho;obtain ⟨RD,rfl⟩:=hb;have:Ot=sz/\es.length=n:=by simpa [sg,ho,AO.sg] using hs
        obtain ⟨rfl,rfl⟩:=this;have hob:=hr.obj id _ ho;exact .p (Jr (st:=⟨[],h,0⟩) hr (.inr ho) rfl (hx RD) (λ b hb=> .inl hb) λ hc=> .inl (hob.2.2.2 hc).1)
      . exact hb.elim
  | .Dk id n,d',v,hd,hb=>by
    simp only[TR] at hb;cases hd with | Dk _ _ sz m k _ hs hN hv hx=>
      split at hb
      . rename_i t e2 Ot k2 rows ho;obtain ⟨RD,rfl⟩:=hb;have:Ot=sz/\rows.length=m/\k2=k:=by simpa [sg,ho,AO.sg] using hs
        obtain ⟨rfl,rfl,rfl⟩:=this;refine .p ((OC (st:=⟨[],h,0⟩) hr ho (by have:=hx RD;rwa[RD] at this)).keep (λ _ _=>rfl) λ b hb=>?_);rcases hb with hb | hb
        . exact .inl hb
        . exact .inr ⟨id,_,ho,hb⟩
      . exact hb.elim
  | .nr id i len q,d',v,hd,hb=>by
    simp only[TR] at hb;cases hd with | nr _ _ _ _ sz m k _ hs hN hv hx=>
      split at hb
      . rename_i t e2 Ot k2 rows ho;obtain ⟨⟨RD,TZ,hb3⟩,rfl⟩:=hb;have:Ot=sz/\rows.length=m/\k2=k:=by simpa [sg,ho,AO.sg] using hs
        obtain ⟨rfl,rfl,rfl⟩:=this;obtain ⟨bc,g1,g2,a,g3,g4⟩:=hx RD;have hn:HM F w (M id) t e2 Ot rows none:=hr.obj id _ ho;have hg:rows[i]?=some (rows.getD i []):=by simp[List.getD,TZ]
        subst g3;rw[hb3];exact .p ((hn.rows i _ bc hg g1 (by simp)).pure (λ b hb=> .inl hb) (λ hc=> .inr ⟨id,_,ho,.inr ⟨i,bc,g1,hc,rfl⟩⟩) g4)
      . exact hb.elim
  | .agg cs,.agg cs',v,hd,hb=>by
    simp only[TR] at hb;cases hd with | agg _ vs hl hc=>
      have h1:=Lb hr cs cs' (vs:=vs.toList) (by simpa using hl) (λ i e he=>by have:=hc i e he;simpa [List.getD,Array.getD_eq_getD_getElem?] using this) hb;exact .agg _ vs (by have:=h1.1;simpa using this) (λ i e he=>by have:=h1.2 i e he;simpa [List.getD,Array.getD_eq_getD_getElem?] using this)
  | .fn f cap,.fn f' Amh,v,hd,hb=>by
    simp only[TR] at hb;obtain ⟨rfl,hb⟩:=hb;cases hd with | fn _ _ vs hl hc=>
      have h1:=Lb hr cap Amh (vs:=vs.toList) (by simpa using hl) (λ i e he=>by have:=hc i e he;simpa [List.getD,Array.getD_eq_getD_getElem?] using this) hb;exact .fn _ _ vs (by have:=h1.1;simpa using this) (λ i e he=>by have:=h1.2 i e he;simpa [List.getD,Array.getD_eq_getD_getElem?] using this)
theorem Lb (hr:HR F w M h):∀(ds Y2:List D) {vs:List Value},vs.length=ds.length->(∀(i:Nat) c,ds[i]?=some c->DR F w M (sg h) c (vs.getD i undef))->KC h ds Y2->IB (Abv F M h) w M (sg []) Y2 vs
  | [],[],vs,hl,_,_=>⟨hl,λ i c hi=>by simp at hi⟩
  | d::r,d'::r',vs,hl,hc,hb=>by
    simp only[KC] at hb;rcases vs with _ | ⟨x,vs⟩
    . simp at hl
    have h0:=Ah9 hr d d' (v:=x) (by simpa using hc 0 d rfl) hb.1;have h1:=Lb hr r r' (vs:=vs) (by simpa using hl) (λ i c hi=>by simpa using hc (i+1) c (by simpa using hi)) hb.2;refine ⟨by simp[h1.1],λ i c hi=>?_⟩;rcases i with _ | i
    . simp at hi;subst hi;simpa using h0
    . simpa using h1.2 i c (by simpa using hi)
end
mutual
theorem Aha:∀(d d':D),(∀id∈d.ids,get h' id=get h id)->TR h d d'->TR h' d d'
  | .p x,d',_,hb=>by simp only[TR] at hb ⊢;exact hb
  | .cl es,d',_,hb=>by simp only[TR] at hb ⊢;exact hb
  | .ref id off len N,d',hg,hb=>by simp only[TR] at hb ⊢;rw[hg id (by simp[D.ids])];exact hb
  | .Dk id n,d',hg,hb=>by simp only[TR] at hb ⊢;rw[hg id (by simp[D.ids])];exact hb
  | .nr id i len q,d',hg,hb=>by simp only[TR] at hb ⊢;rw[hg id (by simp[D.ids])];exact hb
  | .agg cs,.agg cs',hg,hb=>by simp only[TR] at hb ⊢;exact Jh cs cs' (λ id hi=>hg id (by simpa [D.ids] using hi)) hb
  | .fn f cap,.fn f' Amh,hg,hb=>by simp only[TR] at hb ⊢;exact ⟨hb.1,Jh cap Amh (λ id hi=>hg id (by simpa [D.ids] using hi)) hb.2⟩
theorem Jh:∀(ds Y2:List D),(∀id∈C6 ds,get h' id=get h id)->KC h ds Y2->KC h' ds Y2
  | [],[],_,_=>by simp only[KC]
  | d::r,d'::r',hg,hb=>by
    simp only[KC] at hb ⊢;exact ⟨Aha d d' (λ id hi=>hg id (by simp[C6,hi])) hb.1,Jh r r' (λ id hi=>hg id (by simp[C6,hi])) hb.2⟩
end
end
def TQ(P:Program)(o:Oper)(K:St->Prop)(st:St):Prop:=
 ∃(f:Operand) (args:List Operand) (g:FuncId) (cap ds:List D),C4 o.op=some (f,args)/\ev st f= .fn g cap/\KC st.hp (args.map (ev st)++cap) ds/\
   BV P g ds [] λ h r=>h=[]/\K (st.put o.dst r.Hr)
section
variable {P:Program} {c:Ctx} {st st':St} {a:Act} {w:World} {F:Nat->Prop} {M:Nat->Mb} {o:Oper} {K K':St->Prop}
theorem Rel.n8(hr:Rel c st a w F M){v:Value}{w':World}{F':Nat->Prop}{M':Nat->Mb}{d:D}(hd:DR F' w' M' (sg []) d v)(hk:An5 ⟨w,Abv F M st.hp,Ev M [],M,sg []⟩ w' F' M' []):
   Rel c st a w' F M/\DR F w' M (sg st.hp) d.Hr v:=by
 have LD:∀b,¬Ev M [] b:=by rintro b ⟨id,o,ho,_⟩;simp[get] at ho
 have hold:∀b,b<w.heap.size->w'.heap[b]?=w.heap[b]?:=λ b hb=>hk.Lz b hb (LD b);have Ew:w.heap.size<=w'.heap.size:=hk.size;have hF:∀b,F b->w'.heap[b]?=w.heap[b]?:=λ b hb=>hold b (hr.keep.Fl b hb);have hO:∀b,Ev M st.hp b->w'.heap[b]?=w.heap[b]?:=λ b hb=>hold b (hr.heap.lt hb);refine ⟨⟨λ t d ht=>(hr.env t d ht).keep hF (λ _ h=>h) (CI.refl _ _),hr.size,hr.defers,hr.heap.keep hF hO,?_⟩,hd.Hr⟩;have Ho:=hr.keep;exact ⟨hk.os.trans Ho.os,hk.tape.trans Ho.tape,hk.output.trans Ho.output,Bs Ho.size Ew,λ b hb hO=>(hold b (Nat.lt_of_lt_of_le hb Ho.size)).trans (Ho.Lz b hb hO),Ho.F0,Ho.Fn,
   λ b hb=>Nat.lt_of_lt_of_le (Ho.Fl b hb) Ew,Ho.own,Ho.UM,Ho.Z9⟩
theorem On(hr:Rel c st a w F M)(hb:TQ P o K st)(Q:Exit->Act->World->Prop):o.wp P a w (Good c K) Q:=by
 obtain ⟨f,args,g,cap,ds,ho,hg,Ak0,Mi⟩:=hb;unfold C4 at ho;split at ho
 case h_2=>cases ho
 rename_i cl Kj;split at ho
 case h_2=>cases ho
 rename_i f' hf;simp only[Al,Prod.mk.injEq] at ho;obtain ⟨rfl,rfl⟩:=ho;have hfv:=B9 hr f';rw[hg] at hfv;generalize hvf:a.eval f'=vf at hfv;cases hfv with
 | fn _ _ TB hl hc=>
   have Ir:=(QB hr cl.args.toList).append (cs':=cap) (vs':=TB.toList) ⟨by simpa using hl,λ i e he=>by have:=hc i e he;simpa [List.getD,Array.getD_eq_getD_getElem?] using this⟩;have Xx:=Lb hr.heap _ _ Ir.1 Ir.2 Ak0;have Yx:=Mi (cl.args.map a.eval++TB) w (Abv F M st.hp) M ⟨λ id o ho=>by simp[get] at ho,λ id o N1 o' b ho=>by simp[get] at ho⟩
     (λ b hb=>hb.elim (hr.keep.Fl b) hr.heap.lt) (λ id hid=>by simp[sg,get] at hid) (by simpa using Xx)
   rcases Yx with ⟨He,K1⟩ | ⟨v,w',I4,Rx⟩
   . have Dr:(execOp a.eval o).run P w= .ok (.enter g (cl.args.map a.eval++TB)) w:=by
       simp only[execOp,Kj,hf,resolve,hvf,Deferred.ofValue,Sem.run_bind,Sem.run_pure,Result.andThen_ok,invoke,Array.empty_append];exact He
     unfold Oper.wp;rw[Dr];refine K1.mono ?_;rintro e w' ⟨v,h',r,F2,M2,rfl,⟨rfl,hk⟩,_,hd,Hv⟩;obtain ⟨LB,I8⟩:=hr.n8 hd Hv;exact ⟨_,F,M,hk,LB.put I8 o.dst⟩
   . have Dr:(execOp a.eval o).run P w= .ok (.value v) w':=by
       simp only[execOp,Kj,hf,resolve,hvf,Deferred.ofValue,Sem.run_bind,Sem.run_pure,Result.andThen_ok,invoke,Array.empty_append];exact I4
     obtain ⟨v2,h',r,F2,M2,RQ,⟨rfl,hk⟩,_,hd,Hv⟩:=Rx;cases RQ;obtain ⟨LB,I8⟩:=hr.n8 hd Hv;unfold Oper.wp;rw[Dr];exact ⟨_,F,M,hk,LB.put I8 o.dst⟩
theorem SO{f:Operand}{args:List Operand}(hc:C4 o.op=some (f,args)):∀x∈f::args,x∈o.op.operands.toList:=by
 unfold C4 at hc;split at hc
 case h_2=>cases hc
 rename_i cl PJ;split at hc
 case h_2=>cases hc
 rename_i f' u4;simp only[Al,Prod.mk.injEq] at hc;obtain ⟨rfl,rfl⟩:=hc;intro x hxm;rw[PJ];simp[Op.operands,Call.operands,u4] at hxm ⊢;exact hxm
theorem TP(h:∀x∈o.op.operands.toList,ev st' x=ev st x)(hp:∀id,get st'.hp id=get st.hp id)(hK:∀d,K (st.put o.dst d)->K' (st'.put o.dst d))(hb:TQ P o K st):TQ P o K' st':=by
 obtain ⟨f,args,g,cap,ds,ho,hg,Ak0,Mi⟩:=hb;have hx:=SO ho;have Ir:args.map (ev st')=args.map (ev st):=List.map_congr_left λ x H4=>h x (hx x (by simp[H4]));refine ⟨f,args,g,cap,ds,ho,(h f (hx f (by simp))).trans hg,?_,Mi.mono λ h' r hr=>⟨hr.1,hK _ hr.2⟩⟩;rw[Ir];exact Jh _ _ (λ id _=>hp id) Ak0
theorem Aqj{env:List (Nat×D)}{n:Nat}{e h h':Hp}(hx:HX e h h')(ho:∀x∈o.op.operands.toList,Gj h (ev ⟨env,h,n⟩ x))(hb:TQ P o K ⟨env,h',n⟩):
   TQ P o (λ st=>(∃EO,HX e st.hp EO/\K {st with hp:=EO})/\EM (some (o.dst.getD 0)) h st.hp) ⟨env,h,n⟩:=by
 obtain ⟨f,args,g,cap,ds,hc,hg,Ak0,Mi⟩:=hb;have Avu:=SO hc;refine ⟨f,args,g,cap,ds,hc,hg,?_,Mi.mono λ h2 r hr=>⟨hr.1,⟨h',by rw[Dg];exact hx,Su _ _ _ hr.2⟩,λ i hi=>by rw[Dg] at hi;exact .inl hi⟩⟩;refine Jh _ _ (λ id hid=>?_) Ak0;rw[Q7,Au] at hid;have Nq:get h id≠none:=by
   rcases hid with h1 | h1
   . obtain ⟨d,hd,hi⟩:=Qj h1;obtain ⟨x,H4,rfl⟩:=AN.1 hd;exact ho x (Avu x (by simp[H4])) id hi
   . have h3:=ho f (Avu f (by simp)) id;have e2:ev ⟨env,h,n⟩ f= .fn g cap:=hg;rw[e2] at h3;exact h3 (by simpa [D.ids] using h1)
 exact (hx.eq Nq).symm
def XE(P:Program)(o:Oper)(K:St->Prop)(st:St):Prop:=PT P false o K st∨TQ P o K st
theorem Ac0(hr:Rel c st a w F M)(h:XE P o K st)(Q:Exit->Act->World->Prop):o.wp P a w (Good c K) Q:=h.elim (λ h=>PO hr h Q) λ h=>On hr h Q
end
end Go.Am
namespace Go.Am
open Go
structure KE(st st':St):Prop where
 n:st'.n=st.n
 env:∀t,get st'.env t=get st.env t
 hp:∀id,get st'.hp id=get st.hp id
theorem KE.refl(st:St):KE st st:=⟨rfl,λ _=>rfl,λ _=>rfl⟩
theorem KE.symm{a b:St}(h:KE a b):KE b a:=⟨h.n.symm,λ t=>(h.env t).symm,λ t=>(h.hp t).symm⟩
theorem KE.trans{a b c:St}(h:KE a b)(h':KE b c):KE a c:=⟨h'.n.trans h.n,λ t=>(h'.env t).trans (h.env t),λ t=>(h'.hp t).trans (h.hp t)⟩
theorem Rel.eqv{c:Ctx}{st st':St}{a:Act}{w:World}{F:Nat->Prop}{M:Nat->Mb}(hr:Rel c st a w F M)(h:KE st st'):Rel c st' a w F M:=by
 have hs:sg st'.hp=sg st.hp:=funext λ id=>by unfold sg;rw[h.hp]
 refine ⟨λ t d ht=>?_,by rw[h.n];exact hr.size,hr.defers,?_,?_⟩
 . rw[hs];exact hr.env t d (by rw[<-h.env];exact ht)
 . exact ⟨λ id o ho=>by rw[hs];exact hr.heap.obj id o (by rw[<-h.hp];exact ho),λ id o N1 o' b ho MM=>hr.heap.inj id o N1 o' b (by rw[<-h.hp];exact ho) (by rw[<-h.hp];exact MM)⟩
 . have hk:=hr.keep;exact ⟨hk.os,hk.tape,hk.output,hk.size,hk.Lz,hk.F0,hk.Fn,hk.Fl,λ b ⟨id,o,ho,h1⟩=>hk.own b ⟨id,o,by rw[<-h.hp];exact ho,h1⟩,by rw[hs];exact hk.UM,hk.Z9⟩
def RH(K:St->Prop):Prop:=∀st st',KE st st'->K st->K st'
def Att(K:St->Prop):St->Prop:=λ st=>∃st',KE st st'/\K st'
theorem RH.of(K:St->Prop):RH (Att K):=λ _ _ h ⟨s,h1,h2⟩=>⟨s,h.symm.trans h1,h2⟩
theorem W2{st st':St}(h:KE st st')(x:Operand):ev st' x=ev st x:=by
 cases x<;>simp only[ev,h.env]
theorem Hg{st:St}{t:Option Nat}{d:D}(q:Nat):get (st.put t d).env q=if t=some q/\q<st.n then some d else get st.env q:=by
 cases t with
 | none=>simp[St.put]
 | some t=>
   simp only[St.put];by_cases ht:t<st.n
   . rw[if_pos ht];simp only[Cb,Al];by_cases e:t=q
     . subst e;simp[ht]
     . simp[e]
   . rw[if_neg ht];by_cases e:t=q
     . subst e;simp[ht]
     . simp[e]
theorem IW(st:St)(t:Option Nat)(d:D):(st.put t d).n=st.n:=by
 cases t with
 | none=>rfl
 | some t=>simp only[St.put];split<;>rfl
theorem KE.put{st st':St}(h:KE st st')(t:Option Nat)(d:D):KE (st.put t d) (st'.put t d):=by
 refine ⟨by rw[IW,IW];exact h.n,λ q=>?_,λ id=>by rw[Dg,Dg];exact h.hp id⟩;rw[Hg,Hg,h.n,h.env]
theorem KE.heap{st st':St}(h:KE st st'){x x':Hp}(hx:∀id,get x' id=get x id):KE {st with hp:=x} {st' with hp:=x'}:=⟨h.n,h.env,hx⟩
theorem KE.swap{st:St}{t u:Option Nat}{d x:D}(Dn:∀q,t=some q->u≠some q):KE ((st.put t d).put u x) ((st.put u x).put t d):=by
 refine ⟨by simp only[IW],λ q=>?_,λ id=>by simp only[Dg]⟩;simp only[Hg,IW];by_cases h1:t=some q/\q<st.n
 . rw[if_pos h1];have:=Dn q h1.1;simp[this,h1]
 . rw[if_neg h1];by_cases h2:u=some q/\q<st.n
   . simp[h2,h1]
   . simp[h2,h1]
section
variable {P:Program}
def Looks(l:List Oper)(o:Oper)(st st':St):Prop:=(∀x∈o.op.operands.toList,ev st' x=ev st x)/\JP st' l o.guard=JP st l o.guard
theorem Ab6{st st':St}:∀{l:List Operand},(∀x∈l,ev st' x=ev st x)->l.map (ev st')=l.map (ev st)
 | [],_=>rfl
 | x::r,h=>by simp only[AD,h x (by simp),Ab6 (l:=r) (λ y hy=>h y (by simp[hy]))]
theorem Wv{st st':St}:∀{l:List (Nat×Operand)},(∀x∈l.map (·.2),ev st' x=ev st x)->l.map (λ q=>(q.1,ev st' q.2))=l.map (λ q=>(q.1,ev st q.2))
 | [],_=>rfl
 | x::r,h=>by simp only[AD,h x.2 (by simp),Wv (l:=r) (λ y hy=>h y (by simp only[AD,AE];exact .inr hy))]
theorem K8{st st':St}{o:Option Operand}{n:Int}(h:∀x∈o.toList,ev st' x=ev st x):D8 st' o n=D8 st o n:=by
 cases o with
 | none=>rfl
 | some x=>simp only[D8,h x (by simp)]
theorem MT{st st':St}{o:Oper}(h:∀x∈o.op.operands.toList,ev st' x=ev st x)(hp:st'.hp=st.hp):JQ P st' o=JQ P st o:=by
 unfold JQ;generalize o.op=op at h;cases op with
 | call c=>
   simp only;cases hc:c.callee with
   | builtin b=>
     simp only;have:c.args.toList.map (ev st')=c.args.toList.map (ev st):=Ab6 λ x hx=>h x (by simp[Op.operands,Call.operands,hc];simpa using hx);rw[this];unfold EZ;rw[hp]
   | _=>rfl
 | slice t x lo hi mx=>
   have h1:ev st' x=ev st x:=h x (by simp[Op.operands]);have h2:∀n,D8 st' lo n=D8 st lo n:=λ n=>K8 λ y hy=>h y (by simp[Op.operands];cases lo<;>simp_all);have h3:∀n,D8 st' hi n=D8 st hi n:=λ n=>K8 λ y hy=>h y (by simp[Op.operands];cases hi<;>simp_all);have h4:∀m n,mx=some m->D8 st' (some m) n=D8 st (some m) n:=λ m n hm=>K8 λ y hy=>h y (by simp[Op.operands];simp_all);have:HA P st' t (ev st x) lo hi mx=HA P st t (ev st x) lo hi mx:=by
     unfold HA;simp only[h2,h3,hp];cases mx with
     | none=>rfl
     | some m=>simp only[h4 m _ rfl]
   simp only[JC,h1,this,hp]
 | build t ps=>
   have h1:ps.toList.map (λ q=>(q.1,ev st' q.2))=ps.toList.map (λ q=>(q.1,ev st q.2)):=Wv λ x hx=>h x (by simpa [Op.operands] using hx);simp only[JC,TE,h1,hp]
 | buildSlice t n ps=>
   have h1:ps.toList.map (λ q=>(q.1,ev st' q.2))=ps.toList.map (λ q=>(q.1,ev st q.2)):=Wv λ x hx=>h x (by simpa [Op.operands] using hx);simp only[KU,h1,hp]
 | makeFunc fn first cap=>
   have h1:cap.toList.map (ev st')=cap.toList.map (ev st):=Ab6 λ x hx=>h x (by simp[Op.operands];exact .inr (by simpa using hx));cases fn<;>simp only[JC,h1,hp]
 | makeMap t r=>cases r<;>simp only[KU,hp]
 | _=>simp[Op.operands] at h<;>simp only[JC,KU,h,hp]
theorem Zn{st st':St}{o:Oper}{f:Operand}{args:List Operand}(hc:C4 o.op=some (f,args))(h:∀x∈o.op.operands.toList,ev st' x=ev st x)(hp:st'.hp=st.hp):GV st' f args=GV st f args:=by
 unfold C4 at hc;split at hc
 case h_2=>cases hc
 rename_i cl PJ;split at hc
 case h_2=>cases hc
 rename_i f' u4;simp only[Al,Prod.mk.injEq] at hc;obtain ⟨rfl,rfl⟩:=hc;rw[PJ] at h;have h1:ev st' f'=ev st f':=h f' (by simp[Op.operands,Call.operands,u4]);have h2:cl.args.toList.map (ev st')=cl.args.toList.map (ev st):=Ab6 λ x hx=>h x (by simp[Op.operands,Call.operands,u4];exact .inr (by simpa using hx));unfold GV;rw[h1,h2,hp]
theorem PS{st st':St}{o:Oper}{K K':St->Prop}(h:∀x∈o.op.operands.toList,ev st' x=ev st x)(hp:st'.hp=st.hp)
   (hK:∀y d,K (({st with hp:=y}:St).put o.dst d)->K' (({st' with hp:=y}:St).put o.dst d)) (hh:PT P false o K st):PT P false o K' st':=by
 unfold PT at*;split at hh
 . rename_i f args hc;rw[Zn hc h hp];rcases Rs.FL hh with hh | hh
   case inr=>exact (AI hh.1).elim
   simp only[K5] at hh ⊢;exact Rs.E1 (Rs.B7 (λ x hx=>Oj (λ d y hk=>hK y d hk) hx) hh)
 . rw[MT h hp];rcases Rs.FL hh with hh | hh
   case inr=>exact (AI hh.1).elim
   exact Rs.E1 (Rs.B7 (λ x hx=>hK _ _ hx) hh)
theorem Ahg{st:St}{o:Oper}{K K':St->Prop}(hK:∀s,K s->K' s)(hh:PT P false o K st):PT P false o K' st:=
 PS (λ _ _=>rfl) rfl (λ _ _ hk=>hK _ hk) hh
theorem Anm{st st':St}(he:KE st st'){o:Oper}{K:St->Prop}(hs:RH K)(hh:PT P false o K st):PT P false o K st':=by
 have h1:PT P false o K {st' with hp:=st.hp}:=PS (λ x _=>W2 (st':={st' with hp:=st.hp}) ⟨he.n,he.env,λ _=>rfl⟩ x) rfl
   (λ y d hk=>hs _ _ (KE.put (KE.heap he λ _=>rfl) _ _) hk) hh
 have hx:HX [] st.hp st'.hp:=λ id=>by rw[he.hp];cases get st.hp id<;>rfl
 have h2:=Aro (env:=st'.env) (n:=st'.n) hx (λ id h=>(h rfl).elim) rfl h1;refine Ahg (λ s ⟨y,hy,hk⟩=>?_) h2;have e:KE {s with hp:=y} s:=by
   refine ⟨rfl,λ _=>rfl,λ id=>?_⟩;have:=hy id;simp only[get] at this;rw[this];cases get y id<;>rfl
 exact hs _ _ e hk
theorem MC{st st':St}{o:Oper}{K K':St->Prop}(h:∀x∈o.op.operands.toList,ev st' x=ev st x)(hp:st'.hp=st.hp)
   (hK:∀y d,K (({st with hp:=y}:St).put o.dst d)->K' (({st' with hp:=y}:St).put o.dst d)) (hh:XE P o K st):XE P o K' st':=by
 rcases hh with hh | hh
 . exact .inl (PS h hp hK hh)
 . refine .inr (TP h (λ id=>by rw[hp]) (λ d hk=>?_) hh);have:=hK st.hp d hk;rw[<-hp] at this;exact this
theorem G1{st:St}{o:Oper}{K K':St->Prop}(hK:∀s,K s->K' s)(hh:XE P o K st):XE P o K' st:=
 MC (λ _ _=>rfl) rfl (λ _ _ hk=>hK _ hk) hh
theorem Aak{st st':St}(he:KE st st'){o:Oper}{K:St->Prop}(hs:RH K)(hh:XE P o K st):XE P o K st':=by
 rcases hh with hh | hh
 . exact .inl (Anm he hs hh)
 . exact .inr (TP (λ x _=>W2 he x) he.hp (λ d hk=>hs _ _ (he.put _ _) hk) hh)
theorem Arm{env:List (Nat×D)}{n:Nat}{e h h':Hp}(hx:HX e h h')(he:∀id,get e id≠none->id<10000)(hn:Io h){o:Oper}(hq:isQ o.op=true)(ho:∀x∈o.op.operands.toList,Gj h (ev ⟨env,h,n⟩ x)){K:St->Prop}(hh:XE P o K ⟨env,h',n⟩):
   XE P o (λ st=>(∃EO,HX e st.hp EO/\K {st with hp:=EO})/\EM (some (o.dst.getD 0)) h st.hp) ⟨env,h,n⟩:=
 hh.elim (λ hh=> .inl (Arn hx he hn hq ho hh)) λ hh=> .inr (Aqj hx ho hh)
end
end Go.Am
namespace Go.Am
open Go
def FC:List D->Option (List Pd)
 | []=>some []
 | .p x::r=>(FC r).map (x:: ·)
 | .cl es::r=>(FC r).map (.sl es:: ·)
 | _::_=>none
def Im(P:Program)(st:St)(q:Nat)(op:Op):Rs (D×AO):=
 match op with
 | .alloc t=>match Cx P t with
   | some ti=>match ti.zero.stored with
     | some cs=> .ret True (.ptr q 0,.box cs (npT t cs))
     | none=> .fail
   | none=> .fail
 | .box _ x=>match (ev st x).stored with
   | some cs=> .ret True (.ptr q 0,.box cs)
   | none=> .fail
 | .buildSlice t n parts=>match Cx P t with
   | some ⟨_,_,.slice e,_⟩=>match Cx P e with
     | some ti=>match Gt (λ i=>some (i*ti.size,ti.size)) (List.replicate (n*ti.size) .bad) (parts.toList.map λ q=>(q.1,ev st q.2)) with
       | some cs=>if Wn ti cs=true then .fail else match FC cs with
         | some y=> .ret (0<ti.size/\n*ti.size<=16777216) (.ref q 0 n n,.arr e ti.size (chunk ti.size n y))
         | none=> .fail
       | none=> .fail
     | none=> .fail
   | _=> .fail
 | .makeSlice t l m=>match Cx P t,ev st l,ev st m with
   | some ⟨_,_,.slice e,_⟩,.p (.int _ l),.p (.int _ m)=>match Cx P e with
     | some ti=>if ti.k.Aou=true then .fail else match FC ti.zero.cells with
       | some y=> .ret (0<ti.size/\(0<=l/\l<=m/\m*ti.bytes<=140737488355328/\m<=140737488355328)/\ti.zero.cells.length=ti.size) (.ref q 0 l.toNat l.toNat,.arr e ti.size (List.replicate l.toNat y))
       | none=> .fail
     | none=> .fail
   | _,_,_=> .fail
 | _=> .fail
def Gp(P:Program)(l:List Oper)(hR:Hp):List (Nat×Nat)->(St->Prop)->St->Prop
 | [],K,st=>K st
 | (i,kd)::r,K,st=>match l[i]? with
   | none=>False
   | some o=>Fx st l o.guard (match kd with
     | 0=>(JQ P {st with hp:=hR} o).all λ x=>Gp P l hR r K (st.put o.dst x.1)
     | 1=>(Im P st (o.dst.getD 0) o.op).all λ x=>get st.hp (o.dst.getD 0)=none/\Gp P l hR r K (({st with hp:=(o.dst.getD 0,x.2)::st.hp}:St).put o.dst x.1)
     | 2=>XE P o (λ s=>C5 s.hp hR/\Gp P l hR r K s) st
     | _=>XE P o (Gp P l hR r K) st) (Gp P l hR r K (st.put o.dst (.De [])))
theorem Rs.leaf{α:Type}{k:α->Prop}:∀{r:Rs α},r.all k->∃a,k a/\∀k':α->Prop,k' a->r.all k'
 | .fail,h=>h.elim
 | .ret p a,h=>⟨a,h.2,λ _ hk=>⟨h.1,hk⟩⟩
 | .split b x y,h=>by
   cases b
   . obtain ⟨a,h1,h2⟩:=Rs.leaf (h.2 rfl);exact ⟨a,h1,λ k' hk=>⟨λ e=>(AI e).elim,λ _=>h2 k' hk⟩⟩
   . obtain ⟨a,h1,h2⟩:=Rs.leaf (h.1 rfl);exact ⟨a,h1,λ k' hk=>⟨λ _=>h2 k' hk,λ e=>(AI e.symm).elim⟩⟩
theorem GR(st:St)(l:List Oper)(g:Option (Nat×Bool))(yes no:Prop):Fx st l g yes no=match JP st l g with
   | .yes=>yes
   | .no=>no
   | .cond b=>VU b yes no
   | .bad=>False:=by
 unfold Fx JP;cases g with
 | none=>rfl
 | some g=>
   obtain ⟨j,want⟩:=g;simp only;cases ((l[j]?).bind (·.dst)).bind (get st.env) with
   | none=>rfl
   | some d=>cases d with
     | p q=>cases q<;>rfl
     | De cs=>cases cs<;>rfl
     | _=>rfl
theorem Rc{st:St}{l:List Oper}{g:Option (Nat×Bool)}{yes no:Prop}(h:Fx st l g yes no):
   (yes/\∀(st':St) (y n:Prop),JP st' l g=JP st l g->y->Fx st' l g y n)∨(no/\∀(st':St) (y n:Prop),JP st' l g=JP st l g->n->Fx st' l g y n):=by
 rw[GR] at h;cases hg:JP st l g with
 | yes=>rw[hg] at h;exact .inl ⟨h,λ st' y n e hy=>by rw[GR,e];exact hy⟩
 | no=>rw[hg] at h;exact .inr ⟨h,λ st' y n e hy=>by rw[GR,e];exact hy⟩
 | bad=>rw[hg] at h;exact h.elim
 | cond b=>
   rw[hg] at h;cases b
   . exact .inr ⟨h.2 rfl,λ st' y n e hy=>by rw[GR,e];exact ⟨λ e=>(AI e).elim,λ _=>hy⟩⟩
   . exact .inl ⟨h.1 rfl,λ st' y n e hy=>by rw[GR,e];exact ⟨λ _=>hy,λ e=>(AI e.symm).elim⟩⟩
theorem Dt{st st':St}{l:List Oper}{g:Option (Nat×Bool)}{yes no Auf no':Prop}(e:JP st' l g=JP st l g)(hy:yes->Auf)(hn:no->no')(h:Fx st l g yes no):Fx st' l g Auf no':=by
 rcases Rc h with ⟨h1,h2⟩ | ⟨h1,h2⟩
 . exact h2 st' _ _ e (hy h1)
 . exact h2 st' _ _ e (hn h1)
section
variable {P:Program} {l:List Oper} {hR:Hp}
theorem Ak4{st st':St}(h:KE st st')(g:Option (Nat×Bool)):JP st' l g=JP st l g:=by
 unfold JP;have:get st'.env=get st.env:=funext h.env;rw[this]
theorem La{st st':St}{q:Nat}{op:Op}(h:∀x∈op.operands.toList,ev st' x=ev st x):Im P st' q op=Im P st q op:=by
 unfold Im;cases op with
 | box t x=>simp only[h x (by simp[Op.operands])]
 | buildSlice t n ps=>
   have h1:ps.toList.map (λ q=>(q.1,ev st' q.2))=ps.toList.map (λ q=>(q.1,ev st q.2)):=Wv λ x hx=>h x (by simpa [Op.operands] using hx);simp only[h1]
 | makeSlice t l m=>simp only[h l (by simp[Op.operands]),h m (by simp[Op.operands])]
 | _=>rfl
theorem KN:∀{cs:List D} {y:List Pd},FC cs=some y->∀(h:Hp) (k:List Pd×Hp->Prop),k (y,h)->(HZ h cs).all k
 | [],y,hp,h,k,hk=>by simp only[FC,Al] at hp;subst hp;exact ⟨trivial,hk⟩
 | .p x::r,y,hp,h,k,hk=>by
   simp only[FC,BA] at hp;obtain ⟨z,hz,rfl⟩:=hp;exact Rs.Cz ⟨trivial,Rs.Cz (KN hz h _ ⟨trivial,hk⟩)⟩
 | .cl es::r,y,hp,h,k,hk=>by
   simp only[FC,BA] at hp;obtain ⟨z,hz,rfl⟩:=hp;exact Rs.Cz ⟨trivial,Rs.Cz (KN hz h _ ⟨trivial,hk⟩)⟩
 | .agg _::r,y,hp,h,k,hk=>by simp[FC] at hp
 | .De _::r,y,hp,h,k,hk=>by simp[FC] at hp
 | .cz _::r,y,hp,h,k,hk=>by simp[FC] at hp
 | .ref _ _ _ _::r,y,hp,h,k,hk=>by simp[FC] at hp
 | .ptr _ _::r,y,hp,h,k,hk=>by simp[FC] at hp
 | .pe _::r,y,hp,h,k,hk=>by simp[FC] at hp
 | .ea _ _ _ _::r,y,hp,h,k,hk=>by simp[FC] at hp
 | .fn _ _::r,y,hp,h,k,hk=>by simp[FC] at hp
 | .np::r,y,hp,h,k,hk=>by simp[FC] at hp
 | .mv _::r,y,hp,h,k,hk=>by simp[FC] at hp
 | .Dk _ _::r,y,hp,h,k,hk=>by simp[FC] at hp
 | .Ls _ _ _::r,y,hp,h,k,hk=>by simp[FC] at hp
 | .nr _ _ _ _::r,y,hp,h,k,hk=>by simp[FC] at hp
 | .PU::r,y,hp,h,k,hk=>by simp[FC] at hp
 | .bad::r,y,hp,h,k,hk=>by simp[FC] at hp
theorem VR{st:St}{o:Oper}{K:St->Prop}(h:(Im P st (o.dst.getD 0) o.op).all λ x=>get st.hp (o.dst.getD 0)=none/\K (({st with hp:=(o.dst.getD 0,x.2)::st.hp}:St).put o.dst x.1)):
   C4 o.op=none/\JQ P st o=KU P st (o.dst.getD 0) o.op/\(KU P st (o.dst.getD 0) o.op).all λ x=>K (({st with hp:=x.2}:St).put o.dst x.1):=by
 unfold Im at h;unfold JQ C4;split at h
 . rename_i t ho;simp only[ho,true_and];split at h
   . rename_i h1;split at h
     . rename_i h2;simp only[KU,h1,h2];exact ⟨h.2.1,h.2.2⟩
     . exact h.elim
   . exact h.elim
 . rename_i t x ho;simp only[ho,true_and];split at h
   . rename_i h2;simp only[KU,h2];exact ⟨h.2.1,h.2.2⟩
   . exact h.elim
 . rename_i t n parts ho;simp only[ho,true_and];split at h
   . rename_i h1;split at h
     . rename_i h2;split at h
       . rename_i h3;split at h
         . exact h.elim
         rename_i hnr;split at h
         . rename_i h4;simp only[KU,h1,h2,h3,if_neg hnr];exact Rs.Cz (KN h4 _ _ ⟨⟨h.1.1,h.1.2,h.2.1⟩,h.2.2⟩)
         . exact h.elim
       . exact h.elim
     . exact h.elim
   . exact h.elim
 . rename_i t l m ho;simp only[ho,true_and];split at h
   . rename_i h1 h2 h3;split at h
     . rename_i h4;split at h
       . exact h.elim
       rename_i hnr;split at h
       . rename_i h5;simp only[KU,h1,h2,h3,h4,if_neg hnr];exact Rs.Cz (KN h5 _ _ ⟨⟨h.1.1,h.2.1,h.1.2.1,h.1.2.2⟩,h.2.2⟩)
       . exact h.elim
     . exact h.elim
   . exact h.elim
 . exact h.elim
theorem C5.congr{h h2:Hp}(he:∀id,get h2 id=get h id):∀{h1:Hp},C5 h h1->C5 h2 h1
 | [],_=>trivial
 | (id,o)::r,hl=>⟨by rw[he];exact hl.1,C5.congr he hl.2⟩
theorem HT{K:St->Prop}(hK:RH K):∀(r:List (Nat×Nat)),RH (Gp P l hR r K)
 | []=>hK
 | (i,kd)::r=>by
   intro st st' he h;have ih:=HT hK r;simp only[Gp] at h ⊢;split at h
   . exact h.elim
   . rename_i o ho;(try simp only[ho]);refine Dt (Ak4 he _) (λ hy=>?_) (λ hn=>ih _ _ (he.put _ _) hn) h;split at hy
     . rw[MT (st:={st with hp:=hR}) (st':={st' with hp:=hR}) (λ x _=>W2 (he.heap (x:=hR) (x':=hR) λ _=>rfl) x) rfl];exact Rs.B7 (λ x hx=>ih _ _ (he.put _ _) hx) hy
     . rw[La (st:=st) (λ x _=>W2 he x)];refine Rs.B7 (λ x hx=>⟨by rw[he.hp];exact hx.1,ih _ _ (KE.put (he.heap λ id=>?_) _ _) hx.2⟩) hy;simp only[Cb,he.hp]
     . exact Aak he (λ s s' hs hh=>⟨hh.1.congr hs.hp,ih _ _ hs hh.2⟩) hy
     . exact Aak he ih hy
end
end Go.Am
namespace Go.Am
open Go
section
variable {P:Program} {l:List Oper} {hR:Hp}
theorem C5.hx{h:Hp}(hl:C5 h hR):HX h hR h:=by
 intro id;cases hg:get hR id with
 | none=>rfl
 | some o=>exact hl.spec id o hg
theorem Yp{o:Oper}(hv:Np o.op=true):C4 o.op=none:=by
 unfold C4;split
 . rename_i c hc;rw[hc] at hv;split
   . rename_i f hf;simp[Np,hf] at hv
   . rfl
 . rfl
theorem Amo{env:List (Nat×D)}{n:Nat}{e h h':Hp}(hx:HX e h h'){q:Nat}{b:Builtin}(hb:b≠ .append)(TZ:b≠ .copy){ts:Array TypeId}{args:List D}{k:D->Prop}(hh:(EZ P ⟨env,h,n⟩ q b ts args).all (λ x=>k x.1)):
   (EZ P ⟨env,h',n⟩ q b ts args).all (λ y=>y.2=h'/\k y.1):=by
 unfold EZ at*;split at hh
 . split at hh
   . refine Rs.Cz (Rs.B7 (λ y hy=>?_) (Ab8 hx (Rs.all_bind hh)));exact ⟨hy.1,rfl,hy.2⟩
   . exact hh.elim
 . exact (hb rfl).elim
 . exact (TZ rfl).elim
 . exact ⟨hh.1,rfl,hh.2⟩
 . exact ⟨hh.1,rfl,hh.2⟩
 . exact hh.elim
theorem doV{env:List (Nat×D)}{n:Nat}{e h h':Hp}(hx:HX e h h'){o:Oper}(hv:Np o.op=true){k:D->Prop}(hh:(JQ P ⟨env,h,n⟩ o).all (λ x=>k x.1)):(JQ P ⟨env,h',n⟩ o).all (λ x=>x.2=h'/\k x.1):=by
 have val:∀{op:Op},((JC P ⟨env,h,n⟩ op).bind λ d=> .ret True (d,h)).all (λ x=>k x.1)->((JC P ⟨env,h',n⟩ op).bind λ d=> .ret True (d,h')).all (λ x=>x.2=h'/\k x.1):=λ hv=>
   Rs.Cz (Rs.B7 (λ d hd=>⟨hd.1,rfl,hd.2⟩) (Aal hx (Rs.all_bind hv)))
 unfold JQ at*;generalize o.op=op at hv hh ⊢;cases op with
 | call c=>
   cases hc:c.callee with
   | builtin b=>
     simp only[hc] at hh ⊢;exact Amo hx (λ e=>by subst e;simp[Np,hc] at hv) (λ e=>by subst e;simp[Np,hc] at hv) hh
   | _=>simp only[hc] at hh;exact hh.elim
 | alloc _=>simp[Np] at hv
 | box _ _=>simp[Np] at hv
 | store _ _ _=>simp[Np] at hv
 | buildSlice _ _ _=>simp[Np] at hv
 | makeSlice _ _ _=>simp[Np] at hv
 | makeMap _ _=>simp[Np] at hv
 | mapUpdate _ _ _ _=>simp[Np] at hv
 | _=>exact val hh
theorem PQ{st:St}{o:Oper}{K:St->Prop}(hc:C4 o.op=none)(h:(JQ P st o).all λ x=>K (({st with hp:=x.2}:St).put o.dst x.1)):PT P false o K st:=by
 unfold PT;rw[hc];exact Rs.E1 h
theorem eff{i kd:Nat}{r:List (Nat×Nat)}{K:St->Prop}{st:St}{o:Oper}(ho:l[i]?=some o)(hk:kd=0∨kd=1)(hv:kd=0->Np o.op=true)(h:Gp P l hR ((i,kd)::r) K st):
   ∃(e:Hp) (d:D),(e=[]∨(kd=1/\∃ao,e=[(o.dst.getD 0,ao)]))/\(∀x∈e,get st.hp x.1=none)/\Gp P l hR r K (({st with hp:=e++st.hp}:St).put o.dst d)/\
     (∀(s:St) (r':List (Nat×Nat)) (K':St->Prop),Looks l o st s->(∀x∈e,get s.hp x.1=none)->Gp P l hR r' K' (({s with hp:=e++s.hp}:St).put o.dst d)->Gp P l hR ((i,kd)::r') K' s)/\
     (∀(c:Ctx) (a:Act) (w:World) (F:Nat->Prop) (M:Nat->Mb),Rel c st a w F M->(kd=0->C5 st.hp hR)->∃a' w' F' M',Rel c (({st with hp:=e++st.hp}:St).put o.dst d) a' w' F' M'):=by
 simp only[Gp,ho] at h;rcases Rc h with ⟨hy,GQ⟩ | ⟨hn,GQ⟩
 . rcases hk with rfl | rfl
   . simp only at hy;obtain ⟨x,hx,hb⟩:=Rs.leaf hy;refine ⟨[],x.1,.inl rfl,(λ y hy=>by cases hy),hx,λ s r' K' hl _ hg=>?_,λ c a w F M hr hle=>?_⟩
     . simp only[Gp,ho];refine GQ s _ _ hl.2 ?_;(try simp only);rw[MT (st:={st with hp:=hR}) (st':={s with hp:=hR}) (λ x hx=>hl.1 x hx) rfl];exact hb _ hg
     . have h1:(JQ P ⟨st.env,hR,st.n⟩ o).all (λ y=>(λ d=>d=x.1) y.1):=hb (λ y=>y.1=x.1) rfl;have h2:=doV (k:=λ d=>d=x.1) (hle rfl).hx (hv rfl) h1;have h3:PT P false o (λ s=>s=st.put o.dst x.1) st:=PQ (Yp (hv rfl)) (Rs.B7 (λ y hy=>by
         obtain ⟨e1,e2⟩:=hy;rw[e1,e2]) h2)
       obtain ⟨d,v,e1,hd,_⟩:=Adr hr (hv rfl) h3;have:=hr.put hd o.dst;rw[e1] at this;exact ⟨_,w,F,M,this⟩
   . simp only at hy;obtain ⟨x,hx,hb⟩:=Rs.leaf hy;refine ⟨[(o.dst.getD 0,x.2)],x.1,.inr ⟨rfl,x.2,rfl⟩,(λ y hy=>by simp only[Av] at hy;subst hy;exact hx.1),hx.2,λ s r' K' hl hf hg=>?_,λ c a w F M hr _=>?_⟩
     . simp only[Gp,ho];refine GQ s _ _ hl.2 ?_;(try simp only);rw[La (st:=st) (λ x hx=>hl.1 x hx)];exact hb _ ⟨hf (o.dst.getD 0,x.2) (by simp),hg⟩
     . obtain ⟨_,_,h1⟩:=VR (K:=λ s=>s=({st with hp:=(o.dst.getD 0,x.2)::st.hp}:St).put o.dst x.1) (hb (λ y=>get st.hp (o.dst.getD 0)=none/\({st with hp:=(o.dst.getD 0,y.2)::st.hp}:St).put o.dst y.1=({st with hp:=(o.dst.getD 0,x.2)::st.hp}:St).put o.dst x.1) ⟨hx.1,rfl⟩);obtain ⟨d,h',v,w',F',M',e1,KD,_,hd,_⟩:=FW hr (o:=o) (k:=λ d h=>({st with hp:=h}:St).put o.dst d=({st with hp:=(o.dst.getD 0,x.2)::st.hp}:St).put o.dst x.1) (H2 h1);have:=KD.put hd o.dst;(try simp only at e1);rw[e1] at this;exact ⟨_,w',F',M',this⟩
 . refine ⟨[],.De [],.inl rfl,(λ y hy=>by cases hy),hn,λ s r' K' hl _ hg=>?_,λ c a w F M hr _=>?_⟩
   . simp only[Gp,ho];exact GQ s _ _ hl.2 hg
   . exact ⟨_,w,F,M,hr.put (.De [] #[] rfl (λ i d hd=>by simp at hd)) o.dst⟩
end
end Go.Am
namespace Go.Am
open Go
structure Ap(l:List Oper)(x y:Oper):Prop where
 a:∀d,x.dst=some d->d∉y.looksAt l.toArray
 b:∀d,x.dst=some d->y.dst≠some d
 c:∀d,y.dst=some d->d∉x.looksAt l.toArray
section
variable {P:Program} {l:List Oper} {hR:Hp}
theorem Fk{o:Oper}{st:St}{t:Option Nat}{d:D}{h:Hp}(hn:∀q,t=some q->q∉o.looksAt l.toArray):Looks l o st (({st with hp:=h}:St).put t d):=by
 refine ⟨λ x hx=>?_,?_⟩
 . cases x with
   | tmp q=>
     simp only[ev,Hg];rw[if_neg];rintro ⟨e,_⟩;refine hn q e ?_;unfold Oper.looksAt;exact BL _ (List.mem_filterMap.2 ⟨.tmp q,hx,rfl⟩)
   | _=>rfl
 . unfold JP;cases hg:o.guard with
   | none=>rfl
   | some g=>
     obtain ⟨j,want⟩:=g;simp only;cases hj:(l[j]?).bind (·.dst) with
     | none=>rfl
     | some q=>
       have:get (({st with hp:=h}:St).put t d).env q=get st.env q:=by
         rw[Hg,if_neg];rintro ⟨e,_⟩;refine hn q e ?_;unfold Oper.looksAt;refine List.mem_append_right _ ?_;rw[hg];simp[hj]
       simp only[Aa,this]
theorem Looks.trans{o:Oper}{a b c:St}(h:Looks l o a b)(h':Looks l o b c):Looks l o a c:=⟨λ x hx=>(h'.1 x hx).trans (h.1 x hx),h'.2.trans h.2⟩
theorem Looks.heap{o:Oper}{a b:St}(h:Looks l o a b)(x y:Hp):Looks l o {a with hp:=x} {b with hp:=y}:=by
 refine ⟨λ z hz=>?_,?_⟩
 . have:=h.1 z hz;cases z<;>exact this
 . exact h.2
theorem RT{st:St}{e:Hp}{t u:Option Nat}{d x:D}(Dn:∀q,t=some q->u≠some q):
   KE ((({st with hp:=e++st.hp}:St).put t d).put u x) (({(st.put u x) with hp:=e++(st.put u x).hp}:St).put t d):=by
 have h1:KE ((({st with hp:=e++st.hp}:St).put t d).put u x) ((({st with hp:=e++st.hp}:St).put u x).put t d):=KE.swap Dn;refine h1.trans (KE.put ?_ _ _);refine ⟨by simp only[IW],λ q=>?_,λ id=>?_⟩
 . simp only[Hg]
 . simp only[Dg]
theorem Aqt{K:St->Prop}(hK:RH K){j:Nat}{oj:Oper}(hj:l[j]?=some oj)(post:List (Nat×Nat)):∀(pre:List (Nat×Nat)) {st:St},Gp P l hR (pre++(j,0)::post) K st->
   (∀x∈pre,(x.2=0∨x.2=1)/\∃oi,l[x.1]?=some oi/\(x.2=0->Np oi.op=true)/\Ap l oi oj)->
   Fx st l oj.guard ((JQ P {st with hp:=hR} oj).all λ x=>Gp P l hR (pre++post) K (st.put oj.dst x.1)) (Gp P l hR (pre++post) K (st.put oj.dst (.De [])))
 | [],st,h,_=>by
   simp only[Be,Gp,hj] at h;exact h
 | (i,ki)::pre,st,h,hp=>by
   obtain ⟨hk,oi,ho,hv,WV⟩:=hp (i,ki) (by simp);obtain ⟨e,d,he,hf,hg,GQ,_⟩:=eff ho hk hv h;have ih:=Aqt hK hj post pre hg (λ x hx=>hp x (by simp[hx]));have hlk:Looks l oj st (({st with hp:=e++st.hp}:St).put oi.dst d):=Fk WV.a;have go:∀x:D,Gp P l hR (pre++post) K ((({st with hp:=e++st.hp}:St).put oi.dst d).put oj.dst x)->Gp P l hR ((i,ki)::(pre++post)) K (st.put oj.dst x):=by
     intro x hx;refine GQ _ _ _ (Fk (h:=st.hp) WV.c) (λ y hy=>by rw[Dg];exact hf y hy) (HT hK _ _ _ (RT WV.b) hx)
   refine Dt hlk.2.symm (λ hy=>?_) (λ hn=>go _ hn) ih;rw[MT (st:={st with hp:=hR}) (λ x hx=>(hlk.heap hR hR).1 x hx) rfl] at hy;exact Rs.B7 (λ x hx=>go _ hx) hy
theorem Aqu{K:St->Prop}(hK:RH K){j:Nat}{oj:Oper}(hj:l[j]?=some oj)(post:List (Nat×Nat)):∀(pre:List (Nat×Nat)) {st:St},Gp P l hR (pre++(j,1)::post) K st->
   (∀x∈pre,(x.2=0∨x.2=1)/\∃oi,l[x.1]?=some oi/\(x.2=0->Np oi.op=true)/\Ap l oi oj/\(x.2=1->oi.dst.getD 0≠oj.dst.getD 0))->
   Fx st l oj.guard ((Im P st (oj.dst.getD 0) oj.op).all λ x=>get st.hp (oj.dst.getD 0)=none/\Gp P l hR (pre++post) K (({st with hp:=(oj.dst.getD 0,x.2)::st.hp}:St).put oj.dst x.1)) (Gp P l hR (pre++post) K (st.put oj.dst (.De [])))
 | [],st,h,_=>by
   simp only[Be,Gp,hj] at h;exact h
 | (i,ki)::pre,st,h,hp=>by
   obtain ⟨hk,oi,ho,hv,WV,Ap5⟩:=hp (i,ki) (by simp);obtain ⟨e,d,he,hf,hg,GQ,_⟩:=eff ho hk hv h;have ih:=Aqu hK hj post pre hg (λ x hx=>hp x (by simp[hx]));have hlk:Looks l oj st (({st with hp:=e++st.hp}:St).put oi.dst d):=Fk WV.a;have YB:∀y∈e,y.1≠oj.dst.getD 0:=by
     intro y hy;rcases he with rfl | ⟨h1,ao,rfl⟩
     . cases hy
     . simp only[Av] at hy;subst hy;exact Ap5 h1
   refine Dt hlk.2.symm (λ hy=>?_) (λ hn=>?_) ih
   . rw[La (st:=st) (λ x hx=>hlk.1 x hx)] at hy;refine Rs.B7 (λ x hx=>?_) hy;obtain ⟨h1,h2⟩:=hx;rw[Dg] at h1;simp only at h1;have u0:get st.hp (oj.dst.getD 0)=none:=by
       rcases he with rfl | ⟨_,ao,rfl⟩
       . exact h1
       . simp only[List.singleton_append,Cb] at h1;rw[if_neg (YB (oi.dst.getD 0,ao) (by simp))] at h1;exact h1
     refine ⟨u0,?_⟩;refine GQ _ _ _ ((Fk (h:=(oj.dst.getD 0,x.2)::st.hp) WV.c)) (λ y hy=>?_) ?_
     . rw[Dg];simp only[Cb];rw[if_neg (λ e2=>YB y hy e2.symm)];exact hf y hy
     . refine HT hK _ _ _ ?_ h2;have h3:=RT (st:={st with hp:=(oj.dst.getD 0,x.2)::st.hp}) (e:=e) (d:=d) (x:=x.1) WV.b;refine KE.trans ?_ h3;refine ⟨by simp only[IW],λ q=>by simp only[Hg,IW],λ id=>?_⟩;simp only[Dg];rcases he with rfl | ⟨_,ao,rfl⟩
       . rfl
       . simp only[List.singleton_append,Cb];by_cases e1:oi.dst.getD 0=id
         . by_cases e2:oj.dst.getD 0=id
           . exact (YB (oi.dst.getD 0,ao) (by simp) (e1.trans e2.symm)).elim
           . simp[e1,e2]
         . simp[e1]
   . refine GQ _ _ _ (Fk (h:=st.hp) WV.c) (λ y hy=>by rw[Dg];exact hf y hy) (HT hK _ _ _ (RT WV.b) hn)
end
end Go.Am
namespace Go.Am
open Go
theorem Ma:∀{cs:List D} {id:Nat},id∈C6 cs->∃(i:Nat) (c:D),cs[i]?=some c/\id∈c.ids
 | [],id,h=>by simp[C6] at h
 | d::r,id,h=>by
   simp only[C6,Au] at h;rcases h with h | h
   . exact ⟨0,d,rfl,h⟩
   . obtain ⟨i,c,h1,h2⟩:=Ma h;exact ⟨i+1,c,by simpa using h1,h2⟩
theorem DR.As2{F:Nat->Prop}{w:World}{M:Nat->Mb}{s:Nat->Option Sg}{d:D}{v:Value}(h:DR F w M s d v):∀id∈d.ids,s id≠none:=by
 induction h with
 | p _=>intro id hi;simp[D.ids] at hi
 | agg cs vs hl _ ih=>intro id hi;obtain ⟨i,c,h1,h2⟩:=Ma hi;exact ih i c h1 id h2
 | De cs vs hl _ ih=>intro id hi;obtain ⟨i,c,h1,h2⟩:=Ma hi;exact ih i c h1 id h2
 | cl es a _ _=>intro id hi;simp[D.ids] at hi
 | cz es a _=>intro id hi;simp[D.ids] at hi
 | ref id off len N sz n v hs _ _ _=>intro i hi;simp only[D.ids,Av] at hi;subst hi;rw[hs];simp
 | ptr id off hs=>intro i hi;simp only[D.ids,Av] at hi;subst hi;rw[hs];simp
 | pe _ _ _ _ _ _ _ _ _ _=>intro id hi;simp[D.ids] at hi
 | ea id i c N sz n v hs _ _ _=>intro i hi;simp only[D.ids,Av] at hi;subst hi;rw[hs];simp
 | fn f cap vs hl _ ih=>intro id hi;obtain ⟨i,c,h1,h2⟩:=Ma hi;exact ih i c h1 id h2
 | PU _ _=>intro id hi;simp[D.ids] at hi
 | bad _=>intro id hi;simp[D.ids] at hi
 | np=>intro id hi;simp[D.ids] at hi
 | mv id hs=>intro i hi;simp only[D.ids,Av] at hi;subst hi;rw[hs];simp
 | Dk id n sz m k v hs _ _ _=>intro i hi;simp only[D.ids,Av] at hi;subst hi;rw[hs];simp
 | Ls id i n sz m k b hs _ _ _=>intro i hi;simp only[D.ids,Av] at hi;subst hi;rw[hs];simp
 | nr id i n q sz m k v hs _ _ _=>intro i hi;simp only[D.ids,Av] at hi;subst hi;rw[hs];simp
section
variable {P:Program} {l:List Oper} {hR:Hp}
theorem Aaq{h:Hp}{id:Nat}:sg h id≠none->get h id≠none:=by
 intro hs hg;exact hs (by simp[sg,hg])
theorem Rel.nod{c:Ctx}{st:St}{a:Act}{w:World}{F:Nat->Prop}{M:Nat->Mb}(hr:Rel c st a w F M):Io st.hp/\∀x,Gj st.hp (ev st x):=by
 refine ⟨λ id o ho i hi=>?_,λ x id hi=>Aaq ((B9 hr x).As2 id hi)⟩;have hob:=hr.heap.obj id o ho;cases o with
 | box cs ty=>
   obtain ⟨_,row,t,_,_,hd⟩:=hob;obtain ⟨j,c,h1,h2⟩:=Ma (cs:=cs) hi;exact Aaq ((hd.1 j c h1).1.As2 i h2)
 | _=>simp[AO.ids] at hi
theorem C5.app{h e:Hp}(he:e=[]∨∃x,e=[x])(hf:∀x∈e,get h x.1=none):∀{h1:Hp},C5 h h1->C5 (e++h) h1
 | [],_=>trivial
 | (id,o)::r,hl=>by
   refine ⟨?_,C5.app he hf hl.2⟩;rcases he with rfl | ⟨x,rfl⟩
   . exact hl.1
   . simp only[List.singleton_append];rw[Cb,if_neg]
     . exact hl.1
     . intro e1;have:=hf x (by simp);rw[e1,hl.1] at this;cases this
theorem C5.Aqn{h e y:Hp}(hx:HX e y h)(hf:∀x∈e,get y x.1=none)(he:e=[]∨∃x,e=[x]){st:Hp}(hs:∀x∈e,get st x.1=none):∀{h1:Hp},C5 st h1->C5 h h1->C5 y h1
 | [],_,_=>trivial
 | (id,o)::r,h0,hl=>by
   refine ⟨?_,C5.Aqn hx hf he hs h0.2 hl.2⟩;have h1:=hl.1;rw[hx] at h1;cases hg:get y id with
   | some o2=>rw[hg] at h1;exact h1
   | none=>
     rw[hg] at h1;simp only at h1;rcases he with rfl | ⟨x,rfl⟩
     . cases h1
     . rw[Cb] at h1;split at h1
       . rename_i e1;have:=hs x (by simp);rw[e1,h0.1] at this;cases this
       . cases h1
theorem HX.app{h e:Hp}(he:e=[]∨∃x,e=[x])(hf:∀x∈e,get h x.1=none):HX e h (e++h):=by
 rcases he with rfl | ⟨⟨q,o⟩,rfl⟩
 . exact HX.refl h
 . exact HX.one (hf (q,o) (by simp))
theorem HX.Hh{h y e:Hp}(hx:HX e h y)(he:e=[]∨∃x,e=[x])(hf:∀x∈e,get h x.1=none)(id:Nat):get (e++h) id=get y id:=by
 rw[hx];rcases he with rfl | ⟨x,rfl⟩
 . simp only[Be];cases get h id<;>rfl
 . simp only[List.singleton_append];rw[Cb];by_cases e1:x.1=id
   . have:=hf x (by simp);rw[e1] at this;rw[if_pos e1,this];simp[get,e1]
   . rw[if_neg e1];cases hg:get h id with
     | none=>simp[get,e1]
     | some o=>rfl
theorem Ail{K:St->Prop}(hK:RH K){c:Ctx}{j kj:Nat}{oj:Oper}(hj:l[j]?=some oj)(hkj:kj=2∨kj=3)(hq:isQ oj.op=true)(post:List (Nat×Nat)):
   ∀(pre:List (Nat×Nat)) {st:St} {a:Act} {w:World} {F:Nat->Prop} {M:Nat->Mb},Rel c st a w F M->Gp P l hR (pre++(j,kj)::post) K st->(kj=2∨(∃x∈pre,x.2=0)->C5 st.hp hR)->
   (∀x∈pre,(x.2=0∨x.2=1)/\∃oi,l[x.1]?=some oi/\(x.2=0->Np oi.op=true)/\Ap l oi oj/\(x.2=1->oi.dst.getD 0≠oj.dst.getD 0/\oi.dst.getD 0<10000))->
   Fx st l oj.guard (XE P oj (λ s=>(kj=2->C5 s.hp hR)/\Gp P l hR (pre++post) K s) st) (Gp P l hR (pre++post) K (st.put oj.dst (.De [])))
 | [],st,a,w,F,M,hr,h,hle,_=>by
   simp only[Be,Gp,hj] at h;refine Dt rfl (λ hy=>?_) id h;rcases hkj with rfl | rfl
   . exact G1 (λ s hs=>⟨λ _=>hs.1,hs.2⟩) hy
   . exact G1 (λ s hs=>⟨λ e=>(by cases e),hs⟩) hy
 | (i,ki)::pre,st,a,w,F,M,hr,h,hle,hp=>by
   obtain ⟨hk,oi,ho,hv,WV,Ap5⟩:=hp (i,ki) (by simp);obtain ⟨e,d,he,hf,hg,GQ,Ast⟩:=eff ho hk hv h;have he':e=[]∨∃x,e=[x]:=by
     rcases he with h1 | ⟨_,ao,h1⟩
     . exact .inl h1
     . exact .inr ⟨_,h1⟩
   obtain ⟨a1,w1,F1,M1,Ia⟩:=Ast c a w F M hr (λ e0=>hle (.inr ⟨(i,ki),by simp,e0⟩));have ih:=Ail hK hj hkj hq post pre Ia hg (λ hh=>by
     rw[Dg];refine C5.app he' hf (hle ?_);rcases hh with h1 | ⟨x,hx,hx0⟩
     . exact .inl h1
     . exact .inr ⟨x,by simp[hx],hx0⟩) (λ x hx=>hp x (by simp[hx]))
   have hlk:Looks l oj st (({st with hp:=e++st.hp}:St).put oi.dst d):=Fk WV.a;refine Dt hlk.2.symm (λ hy=>?_) (λ hn=>?_) ih
   . have h1:XE P oj (λ s=>(kj=2->C5 s.hp hR)/\Gp P l hR (pre++post) K (s.put oi.dst d)) {st with hp:=e++st.hp}:=by
       refine MC (λ x hx=>(hlk.1 x hx).symm) (by rw[Dg]) (λ y x hk=>?_) hy;refine ⟨λ e2=>by have:=hk.1 e2;simp only[Dg] at this ⊢;exact this,?_⟩;refine HT hK _ _ _ ?_ hk.2;have h2:KE ((({st with hp:=y}:St).put oi.dst d).put oj.dst x) ((({st with hp:=y}:St).put oj.dst x).put oi.dst d):=KE.swap WV.b;refine KE.trans ?_ h2;refine ⟨by simp only[IW],λ q=>by simp only[Hg,IW],λ id=>by simp only[Dg]⟩
     obtain ⟨LD,hpr⟩:=hr.nod;have heN:∀id,get e id≠none->id<10000:=by
       intro id hid;rcases he with h1 | ⟨Qq,ao,h1⟩
       . subst h1;exact (hid rfl).elim
       . subst h1;rw[Cb] at hid;split at hid
         . rename_i e1;subst e1;exact (Ap5 Qq).2
         . exact (hid rfl).elim
     have h2:=Arm (env:=st.env) (n:=st.n) (HX.app he' hf) heN LD hq (λ x _=>hpr x) h1;refine MC (st:=st) (λ _ _=>rfl) rfl (λ y x hk=>?_) h2;obtain ⟨⟨EO,I3,At2,Qu⟩,Mf⟩:=hk;rw[Dg] at I3 Mf;simp only at I3 Mf;have hfy:∀z∈e,get y z.1=none:=by
       intro z hz;cases hgz:get y z.1 with
       | none=>rfl
       | some o=>
         exfalso;rcases he with rfl | ⟨Qq,ao,rfl⟩
         . cases hz
         . simp only[Av] at hz;subst hz;obtain ⟨Vh,I8⟩:=Ap5 Qq;rcases Mf (oi.dst.getD 0) (by rw[hgz];simp) with h3 | h3 | h3
           . exact h3 (hf (oi.dst.getD 0,ao) (by simp))
           . exact Vh (Ac h3)
           . exact absurd I8 (Nat.not_lt.2 h3)
     refine ⟨λ e2=>by
       rw[Dg];exact C5.Aqn I3 hfy he' hf (hle (.inl e2)) (At2 e2),?_⟩
     refine GQ _ _ _ (Fk (h:=y) WV.c) (λ z hz=>by rw[Dg];exact hfy z hz) ?_;refine HT hK _ _ _ (KE.put ?_ _ _) Qu;refine ⟨rfl,λ _=>rfl,λ id=>?_⟩;simp only[Dg];exact HX.Hh I3 he' hfy id
   . refine GQ _ _ _ (Fk (h:=st.hp) WV.c) (λ y hy=>by rw[Dg];exact hf y hy) (HT hK _ _ _ (RT WV.b) hn)
end
end Go.Am
namespace Go.Am
open Go
def waits(o:Oper)(i:Nat):Bool:=o.after.toList.any λ e=>Region.binds .any e&&e.on==i
def Vf:Op->Bool
 | .move _ | .assign _ | .binOp _ _ _ _ _ | .unOp _ _ _ | .extract _ _=>true
 | _=>false
theorem Agb{P:Program}{env:List (Nat×D)}{n:Nat}{h h':Hp}{o:Oper}(hv:Vf o.op=true){k:D->Prop}(hh:(JQ P ⟨env,h,n⟩ o).all (λ x=>k x.1)):(JQ P ⟨env,h',n⟩ o).all (λ x=>x.2=h'/\k x.1):=by
 have val:∀{op:Op},JC P ⟨env,h',n⟩ op=JC P ⟨env,h,n⟩ op->((JC P ⟨env,h,n⟩ op).bind λ d=> .ret True (d,h)).all (λ x=>k x.1)->((JC P ⟨env,h',n⟩ op).bind λ d=> .ret True (d,h')).all (λ x=>x.2=h'/\k x.1):=λ e hv=>by
   rw[e];exact Rs.Cz (Rs.B7 (λ d hd=>⟨hd.1,rfl,hd.2⟩) (Rs.all_bind hv))
 unfold JQ at*;generalize o.op=op at hv hh ⊢;cases op with
 | move _=>exact val rfl hh
 | assign _=>exact val rfl hh
 | binOp _ _ _ _ _=>exact val rfl hh
 | unOp _ _ _=>exact val rfl hh
 | extract _ _=>exact val rfl hh
 | _=>simp[Vf] at hv
def Qa(l:List Oper)(x:Nat×Nat):Prop:=(x.2=0/\∀o,l[x.1]?=some o->Vf o.op=false)∨x.2=2
theorem Aqs{P:Program}{l:List Oper}{hR:Hp}{K:St->Prop}(hK:RH K){j:Nat}{oj:Oper}(hj:l[j]?=some oj)(post:List (Nat×Nat)):∀(pre:List (Nat×Nat)) {st:St},Gp P l hR (pre++(j,4)::post) K st->
   (∀x∈pre,x.2=0/\∃oi,l[x.1]?=some oi/\Np oi.op=true/\Ap l oi oj)->
   Fx st l oj.guard (XE P oj (Gp P l hR (pre++post) K) st) (Gp P l hR (pre++post) K (st.put oj.dst (.De [])))
 | [],st,h,_=>by
   simp only[Be,Gp,hj] at h;exact h
 | (i,ki)::pre,st,h,hp=>by
   obtain ⟨hk,oi,ho,hv,WV⟩:=hp (i,ki) (by simp);obtain ⟨e,d,he,hf,hg,GQ,_⟩:=eff ho (.inl hk) (λ _=>hv) h;obtain rfl:e=[]:=by
     rcases he with h1 | ⟨h1,_⟩
     . exact h1
     . simp only at hk;rw[hk] at h1;cases h1
   have ih:=Aqs hK hj post pre hg (λ x hx=>hp x (by simp[hx]));have hlk:Looks l oj st (({st with hp:=[]++st.hp}:St).put oi.dst d):=Fk WV.a;have go:∀(y:Hp) (x:D),Gp P l hR (pre++post) K ((({st with hp:=y}:St).put oi.dst d).put oj.dst x)->Gp P l hR ((i,ki)::(pre++post)) K (({st with hp:=y}:St).put oj.dst x):=by
     intro y x hx;refine GQ _ _ _ (Fk (h:=y) WV.c) (λ z hz=>by cases hz) (HT hK _ _ _ ?_ hx);have h2:KE ((({st with hp:=y}:St).put oi.dst d).put oj.dst x) ((({st with hp:=y}:St).put oj.dst x).put oi.dst d):=KE.swap WV.b;refine h2.trans ?_;refine ⟨by simp only[IW],λ q=>by simp only[Hg,IW],λ id=>by simp only[Dg,Be]⟩
   refine Dt hlk.2.symm (λ hy=>?_) (λ hn=>?_) ih
   . refine MC (λ x hx=>(hlk.1 x hx).symm) (by rw[Dg];rfl) (λ y x hk=>?_) hy;refine go y x (HT hK _ _ _ ?_ hk);refine ⟨by simp only[IW],λ q=>by simp only[Hg,IW],λ id=>by simp only[Dg]⟩
   . exact go st.hp (.De []) (HT hK _ _ _ ⟨by simp only[IW],λ q=>by simp only[Hg,IW,Be],λ id=>by simp only[Dg,Be]⟩ hn)
def V3(l:List Oper):Nat->Nat->Nat->Bool
 | 0,_,_=>false
 | f+1,i,j=>match l[j]? with
   | some oj=>oj.after.toList.any λ e=>Region.binds .any e&&(e.on==i||V3 l f i e.on)
   | none=>false
def Q1(l:List Oper)(n:Nat)(x y:Nat×Nat):Bool:=
 match l[x.1]?,l[y.1]? with
 | some ox,some oy=>!waits ox y.1&&
   (if y.2=4 then V3 l n x.1 y.1||(decide (x.2=0)&&Vf ox.op&&Np ox.op&&Oper.apart l.toArray ox oy) else if x.2<=1 then (waits oy x.1||(Oper.apart l.toArray ox oy&&(x.2 != 1||(ox.dst.getD 0 != oy.dst.getD 0&&decide (ox.dst.getD 0<10000)))))&&(!(y.2==3&&x.2==0)||V3 l n x.1 y.1)
    else V3 l n x.1 y.1&&!((x.2==3||x.2==4)&&(y.2==0||y.2==2)))
 | _,_=>false
def opB(l:List Oper)(x:Nat×Nat):Bool:=
 match l[x.1]? with
 | some o=>(match x.2 with
     | 0=>Np o.op
     | 1=>true
     | 2 | 3=>isQ o.op
     | 4=>true
     | _=>false)&&!waits o x.1&&o.after.toList.all λ e=>!Region.binds .any e||decide (e.on<l.length)
 | none=>false
def HE(l:List Oper)(n:Nat):List (Nat×Nat)->Bool
 | []=>true
 | x::r=>r.all (Q1 l n x)&&HE l n r
def Aog:List Nat->Bool
 | []=>true
 | x::r=>r.all (λ y=>x != y)&&Aog r
theorem U1:∀{l:List Nat},Aog l=true->l.Nodup
 | [],_=>List.nodup_nil
 | x::r,h=>by
   simp only[Aog,Ar] at h;refine List.nodup_cons.2 ⟨λ hm=>?_,U1 h.2⟩;have:=AB.1 h.1 x hm;simp at this
def Aaz(l:List Oper)(p:List (Nat×Nat)):Bool:=
 Aog (p.map (·.1))&&HE l l.length p&&p.all (opB l)&&p.length==l.length&&(List.range l.length).all λ i=>p.any λ x=>x.1==i
section
variable {P:Program} {l:List Oper} {hR:Hp}
theorem NS{n:Nat}{y:Nat×Nat}{post:List (Nat×Nat)}:∀{pre:List (Nat×Nat)},HE l n (pre++y::post)=true->∀x∈pre,Q1 l n x y=true
 | [],_,x,hx=>by cases hx
 | z::pre,h,x,hx=>by
   simp only[AR,HE,Ar] at h;rcases AE.1 hx with rfl | hx
   . exact AB.1 h.1 y (by simp)
   . exact NS h.2 x hx
theorem LY{n:Nat}{y:Nat×Nat}{post:List (Nat×Nat)}:∀{pre:List (Nat×Nat)},HE l n (pre++y::post)=true->∀x∈post,Q1 l n y x=true
 | [],h,x,hx=>by
   simp only[Be,HE,Ar] at h;exact AB.1 h.1 x hx
 | z::pre,h,x,hx=>by
   simp only[AR,HE,Ar] at h;exact LY h.2 x hx
theorem Q0{n:Nat}{y:Nat×Nat}{post:List (Nat×Nat)}:∀{pre:List (Nat×Nat)},HE l n (pre++y::post)=true->HE l n (pre++post)=true
 | [],h=>by
   simp only[Be,HE,Ar] at h;exact h.2
 | z::pre,h=>by
   simp only[AR,HE,Ar] at h ⊢;refine ⟨AB.2 λ x hx=>?_,Q0 h.2⟩;refine AB.1 h.1 x ?_;rcases Au.1 hx with h1 | h1
   . exact BL _ h1
   . exact List.mem_append_right _ (Br _ h1)
def Down(l:List Oper)(listed:Array Bool):Prop:=∀k ok,l[k]?=some ok->listed.getD k false=true->∀e∈ok.after,Region.binds .any e=true->listed.getD e.on false=true
theorem LG{listed:Array Bool}(hd:Down l listed):∀(f i j:Nat) (oj:Oper),l[j]?=some oj->(∀e∈oj.after,Region.binds .any e=true->listed.getD e.on false=true)->V3 l f i j=true->listed.getD i false=true
 | 0,i,j,oj,_,_,h=>by simp[V3] at h
 | f+1,i,j,oj,hj,DZ,h=>by
   simp only[V3,hj,Bd,Ar,Bool.or_eq_true,beq_iff_eq] at h;obtain ⟨e,he,hb,h1⟩:=h;have hl:=DZ e (by simpa using he) hb;rcases h1 with rfl | h1
   . exact hl
   . cases hk:l[e.on]? with
     | none=>cases f<;>simp[V3,hk] at h1
     | some ok=>exact LG hd f i e.on ok hk (hd e.on ok hk hl) h1
theorem RY{o:Oper}{i:Nat}:waits o i=true↔∃e∈o.after,Region.binds .any e=true/\e.on=i:=by
 simp only[waits,Bd,Ar,beq_iff_eq];constructor
 . rintro ⟨e,he,h1,h2⟩;exact ⟨e,by simpa using he,h1,h2⟩
 . rintro ⟨e,he,h1,h2⟩;exact ⟨e,by simpa using he,h1,h2⟩
theorem Vm{listed:Array Bool}{i:Nat}(h:listed.getD i true=false):listed.getD i false=false:=by
 rw[As] at*;cases hg:listed[i]? with
 | none=>rfl
 | some b=>rw[hg] at h;exact h
structure Inv(l:List Oper)(rest:List (Nat×Nat))(listed:Array Bool):Prop where
 iff:∀k,k<l.length->(listed.getD k true=false↔∃x∈rest,x.1=k)
 sz:listed.size=l.length
 down:Down l listed
 UX:HE l l.length rest=true
 ops:rest.all (opB l)=true
 len:∀x∈rest,x.1<l.length
theorem Au0{K:St->Prop}(hK:RH K){c:Ctx}{Q:Exit->Act->World->Prop}(hQ:∀a w,Good c K a w->Q .normal a w):∀(fuel:Nat) {rest:List (Nat×Nat)} {listed:Array Bool} {st:St} {a:Act} {w:World} {F:Nat->Prop} {M:Nat->Mb},
   rest.length=fuel->(rest.map (·.1)).Nodup->Rel c st a w F M->Gp P l hR rest K st->((∃x∈rest,Qa l x)->C5 st.hp hR)->Inv l rest listed->wpAny P .any l.toArray Q fuel listed a w:=by
 intro fuel
 induction fuel with
 | zero=>
   intro rest listed st a w F M hlen hnd hr hg hle hi;obtain rfl:rest=[]:=AZ hlen;refine ⟨?_,hQ _ _ ⟨st,F,M,hg,hr⟩⟩;refine List.eq_nil_iff_forall_not_mem.2 λ j hj=>?_;obtain ⟨h0,oj,hoj,_⟩:=mem_ready.1 hj;have Cj:j<l.length:=by have:=(Array.getElem?_eq_some_iff.1 hoj).1;simpa using this
   obtain ⟨x,hx,_⟩:=(hi.iff j Cj).1 h0;cases hx
 | succ fuel ih=>
   intro rest listed st a w F M hlen hnd hr hg hle hi;refine ⟨λ Azk=>?_,λ j hj=>?_⟩
   . exfalso;cases rest with
     | nil=>cases hlen
     | cons x r=>
       have Q9:x.1∈Region.ready .any l.toArray listed:=by
         have Cj:=hi.len x (by simp);refine mem_ready.2 ⟨(hi.iff x.1 Cj).2 ⟨x,by simp,rfl⟩,l[x.1],by simp[Cj],λ e he hb=>?_⟩;have Kj:opB l x=true:=AB.1 hi.ops x (by simp);have hox:l[x.1]?=some l[x.1]:=Ax Cj;simp only[opB,hox,Ar,AB,Bool.or_eq_true,Bool.not_eq_true',Ao] at Kj;have Awb:=(Kj.2 e (by simpa using he)).resolve_left (by rw[hb];simp);cases hle:listed.getD e.on true with
         | true=>
           rw[As] at hle ⊢;have:e.on<listed.size:=by rw[hi.sz];exact Awb
           rw[A5 this] at hle ⊢;exact hle
         | false=>
           exfalso;obtain ⟨y,hy,hye⟩:=(hi.iff e.on Awb).1 hle;have hw:waits l[x.1] y.1=true:=RY.2 ⟨e,he,hb,hye.symm⟩;rcases AE.1 hy with rfl | hy
           . rw[hw] at Kj;simp at Kj
           . have hp:=hi.UX;simp only[HE,Ar] at hp;have:=AB.1 hp.1 y hy;unfold Q1 at this;rw[hox] at this;split at this
             . rename_i ox oy h1 h2;cases h1;rw[hw] at this;simp at this
             . cases this
       rw[Azk] at Q9;cases Q9
   . obtain ⟨h0,oj,hoj,DZ⟩:=mem_ready.1 hj;have Cj:j<l.length:=by have:=(Array.getElem?_eq_some_iff.1 hoj).1;simpa using this
     have Nc:l[j]?=some oj:=by simpa using hoj
     obtain ⟨x,hx,rfl⟩:=(hi.iff j Cj).1 h0;obtain ⟨j,kj⟩:=x;obtain ⟨pre,post,rfl⟩:=List.append_of_mem hx;simp only at hoj Nc h0 DZ Cj hj ⊢;have Lu:∀x∈pre,x.2<=1/\∃oi,l[x.1]?=some oi/\(x.2=0->Np oi.op=true)/\Ap l oi oj/\(x.2=1->oi.dst.getD 0≠oj.dst.getD 0/\oi.dst.getD 0<10000)/\¬(kj=3/\x.2=0):=by
       intro x hx;have hp:=NS hi.UX x hx;have Ae3:x∈pre++(j,kj)::post:=by simp[hx]
       have Yv:=hi.len x Ae3;have hun:listed.getD x.1 false=false:=Vm ((hi.iff x.1 Yv).2 ⟨x,Ae3,rfl⟩);have hox:l[x.1]?=some l[x.1]:=Ax Yv;have Kj:opB l x=true:=AB.1 hi.ops x Ae3;have hnt:V3 l l.length x.1 j≠true:=λ ht=>by
         have:=LG hi.down _ _ _ oj Nc DZ ht;rw[hun] at this;cases this
       have hnw:waits oj x.1≠true:=λ hw=>by
         obtain ⟨e,he,hb,hye⟩:=RY.1 hw;have:=DZ e he hb;rw[hye,hun] at this;cases this
       unfold Q1 at hp;rw[hox,Nc] at hp;simp only[Ar] at hp;obtain ⟨_,hp⟩:=hp;split at hp
       . rename_i h4;simp only[Bool.or_eq_true,Ar,Ao] at hp;rcases hp with hp | ⟨⟨⟨h1,h2⟩,h3⟩,h5⟩
         . exact (hnt hp).elim
         . obtain ⟨s1,s2,s3⟩:=Oper.apart_spec h5;exact ⟨by omega,l[x.1],hox,λ _=>h3,⟨s1,s2,s3⟩,λ h=>by omega,λ ⟨h,_⟩=>by omega⟩
       split at hp
       . rename_i At2;simp only[Ar,Bool.or_eq_true] at hp;obtain ⟨hp1,JT⟩:=hp;have hp1:=hp1.resolve_left hnw;obtain ⟨s1,s2,s3⟩:=Oper.apart_spec hp1.1;refine ⟨At2,l[x.1],hox,λ hz=>?_,⟨s1,s2,s3⟩,λ h1=>?_,λ ⟨h3,hz⟩=>?_⟩
         . simp only[opB,hox,hz,Ar] at Kj;exact Kj.1.1
         . have:=hp1.2.resolve_left (by simp[h1])
           simpa using this
         . exact hnt (JT.resolve_left (by simp[h3,hz]))
       . simp only[Ar] at hp;exact (hnt hp.1).elim
     have O7:opB l (j,kj)=true:=AB.1 hi.ops _ (by simp);have Aw0:((pre++post).map (·.1)).Nodup/\∀x∈pre++post,x.1≠j:=by
       rw[Bb,AD] at hnd;obtain ⟨h1,h2,h3⟩:=Bn.1 hnd;obtain ⟨h4,h5⟩:=List.nodup_cons.1 h2;refine ⟨?_,λ x hx e=>?_⟩
       . rw[Bb];exact Bn.2 ⟨h1,h5,λ a ha b hb=>h3 a ha b (Br _ hb)⟩
       . rcases Au.1 hx with h6 | h6
         . exact h3 x.1 (List.mem_map_of_mem h6) j (by simp) e
         . exact h4 (by simp only;rw[<-e];exact List.mem_map_of_mem h6)
     have S4:Inv l (pre++post) (listed.setIfInBounds j true):=by
       refine ⟨λ k hk=>?_,by simp[hi.sz],?_,Q0 hi.UX,?_,λ x hx=>hi.len x (by rcases Au.1 hx with h | h<;>simp[h])⟩
       . by_cases e:j=k
         . subst e;have:(listed.setIfInBounds j true).getD j true=true:=by
             rw[As,Array.getElem?_setIfInBounds];simp[hi.sz,Cj]
           rw[this];refine ⟨λ h=>(by cases h),λ ⟨x,hx,hxe⟩=>(Aw0.2 x hx hxe).elim⟩
         . rw[getD_set_ne true e,hi.iff k hk];constructor
           . rintro ⟨x,hx,hxe⟩;rcases Au.1 hx with h | h
             . exact ⟨x,BL _ h,hxe⟩
             . rcases AE.1 h with rfl | h
               . exact (e hxe).elim
               . exact ⟨x,List.mem_append_right _ h,hxe⟩
           . rintro ⟨x,hx,hxe⟩;exact ⟨x,by rcases Au.1 hx with h | h<;>simp[h],hxe⟩
       . intro k ok hk S3 e he hb;by_cases ee:j=k
         . subst ee;rw[Nc] at hk;cases hk;exact getD_set_true (DZ e he hb)
         . rw[getD_set_ne false ee] at S3;exact getD_set_true (hi.down k ok hk S3 e he hb)
       . refine AB.2 λ x hx=>AB.1 hi.ops x ?_;rcases Au.1 hx with h | h<;>simp[h]
     have Aw4:(pre++post).length=fuel:=by simp at hlen ⊢;omega
     have next:∀{s a' w' F' M'},Rel c s a' w' F' M'->Gp P l hR (pre++post) K s->((∃x∈pre++post,Qa l x)->C5 s.hp hR)->wpAny P .any l.toArray Q fuel (listed.setIfInBounds j true) a' w':=
       λ KD hg' Aw5=>ih Aw4 Aw0.1 KD hg' Aw5 S4
     have Ie:(∃x∈pre++post,Qa l x)->C5 st.hp hR:=λ ⟨x,hx,h2⟩=>hle ⟨x,by rcases Au.1 hx with h | h<;>simp[h],h2⟩;have main:Fx st l oj.guard (XE P oj (λ s=>((∃x∈pre++post,Qa l x)->C5 s.hp hR)/\Gp P l hR (pre++post) K s) st) (Gp P l hR (pre++post) K (st.put oj.dst (.De []))):=by
       have two:∀x∈pre,x.2=0∨x.2=1:=λ x hx=>by have:=(Lu x hx).1;omega
       match kj,hg,hle,Lu,O7,hi with
       | 0,hg,hle,Lu,O7,hi=>
         have h1:=Aqt hK Nc post pre hg (λ x hx=>⟨two x hx,by obtain ⟨_,oi,h1,h2,h3,_⟩:=Lu x hx;exact ⟨oi,h1,h2,h3⟩⟩);have hv:Np oj.op=true:=by simp only[opB,Nc,Ar] at O7;exact O7.1.1
         refine Dt rfl (λ hy=>?_) id h1;have h2:(JQ P st oj).all (λ x=>x.2=st.hp/\Gp P l hR (pre++post) K (st.put oj.dst x.1)):=by
           by_cases hls:Vf oj.op=true
           . exact Agb (k:=λ d=>Gp P l hR (pre++post) K (st.put oj.dst d)) hls hy
           . have hl:=hle ⟨(j,0),by simp,.inl ⟨rfl,λ o ho=>by rw[Nc] at ho;cases ho;simpa using hls⟩⟩;exact doV (k:=λ d=>Gp P l hR (pre++post) K (st.put oj.dst d)) hl.hx hv hy
         exact .inl <| PQ (Yp hv) (Rs.B7 (λ x hx=>by
           obtain ⟨e1,e2⟩:=hx;rw[e1];exact ⟨λ hh=>by rw[Dg];exact Ie hh,e2⟩) h2)
       | 1,hg,hle,Lu,O7,hi=>
         have h1:=Aqu hK Nc post pre hg (λ x hx=>⟨two x hx,by obtain ⟨_,oi,h1,h2,h3,h4,_⟩:=Lu x hx;exact ⟨oi,h1,h2,h3,λ e=>(h4 e).1⟩⟩);refine Dt rfl (λ hy=>?_) id h1;obtain ⟨x,hx,hb⟩:=Rs.leaf hy;obtain ⟨h2,h3,h4⟩:=VR (K:=λ s=>((∃x∈pre++post,Qa l x)->C5 s.hp hR)/\Gp P l hR (pre++post) K s) (Rs.B7 (λ y hy=>⟨hy.1,λ hh=>by
           rw[Dg];exact C5.app (.inr ⟨_,rfl⟩) (λ z hz=>by simp only[Av] at hz;subst hz;exact hy.1) (Ie hh),hy.2⟩) hy)
         exact .inl <| PQ h2 (by rw[h3];exact h4)
       | 2,hg,hle,Lu,O7,hi=>
         have hq:isQ oj.op=true:=by simp only[opB,Nc,Ar] at O7;exact O7.1.1
         have h1:=Ail hK Nc (.inl rfl) hq post pre hr hg (λ _=>hle ⟨(j,2),by simp,.inr rfl⟩) (λ x hx=>⟨two x hx,by obtain ⟨_,oi,h1,h2,h3,h4,_⟩:=Lu x hx;exact ⟨oi,h1,h2,h3,h4⟩⟩);exact Dt rfl (λ hy=>G1 (λ s hs=>⟨λ _=>hs.1 rfl,hs.2⟩) hy) id h1
       | 3,hg,hle,Lu,O7,hi=>
         have hq:isQ oj.op=true:=by simp only[opB,Nc,Ar] at O7;exact O7.1.1
         have LD:∀x∈pre++post,¬(x.2=0∨x.2=2):=by
           intro x hx h2;rcases Au.1 hx with h | h
           . obtain ⟨h3,oi,_,_,_,_,h4⟩:=Lu x h;rcases h2 with h2 | h2
             . exact h4 ⟨rfl,h2⟩
             . omega
           . have hp:=LY hi.UX x h;unfold Q1 at hp;split at hp
             . rw[if_neg (by omega),if_neg (by simp)] at hp;rcases h2 with h2 | h2<;>simp[h2] at hp
             . cases hp
         have h1:=Ail hK Nc (.inr rfl) hq post pre hr hg (λ hh=>by
           rcases hh with h | ⟨x,hx,h2⟩
           . cases h
           . exact (LD x (BL _ hx) (.inl h2)).elim) (λ x hx=>⟨two x hx,by obtain ⟨_,oi,h1,h2,h3,h4,_⟩:=Lu x hx;exact ⟨oi,h1,h2,h3,h4⟩⟩)
         exact Dt rfl (λ hy=>G1 (λ s hs=>⟨λ ⟨x,hx,h2⟩=>(LD x hx (h2.imp And.left id)).elim,hs.2⟩) hy) id h1
       | 4,hg,hle,Lu,O7,hi=>
         have Ov:∀x∈pre,x.2=0/\∃oi,l[x.1]?=some oi/\Np oi.op=true/\Ap l oi oj/\Vf oi.op=true:=by
           intro x hx;have hp:=NS hi.UX x hx;have Ae3:x∈pre++(j,4)::post:=by simp[hx]
           have Yv:=hi.len x Ae3;have hun:listed.getD x.1 false=false:=Vm ((hi.iff x.1 Yv).2 ⟨x,Ae3,rfl⟩);have hox:l[x.1]?=some l[x.1]:=Ax Yv;unfold Q1 at hp;rw[hox,Nc] at hp;simp only[AL,Ar,Bool.or_eq_true,Ao] at hp;rcases hp.2 with h | ⟨⟨⟨h1,h2⟩,h3⟩,h5⟩
           . have:=LG hi.down _ _ _ oj Nc DZ h;rw[hun] at this;cases this
           . obtain ⟨s1,s2,s3⟩:=Oper.apart_spec h5;exact ⟨h1,l[x.1],hox,h3,⟨s1,s2,s3⟩,h2⟩
         have LD:∀x∈pre++post,¬Qa l x:=by
           intro x hx h2;rcases Au.1 hx with h | h
           . obtain ⟨g1,oi,g2,_,_,g3⟩:=Ov x h;rcases h2 with ⟨_,h2⟩ | h2
             . have:=h2 oi g2;rw[g3] at this;cases this
             . omega
           . have hp:=LY hi.UX x h;unfold Q1 at hp;split at hp
             . rename_i ox oy e1 e2;by_cases h4:x.2=4
               . rcases h2 with ⟨h2,_⟩ | h2<;>omega
               . rw[if_neg h4,if_neg (by simp)] at hp;rcases h2 with ⟨h2,_⟩ | h2<;>simp[h2] at hp
             . cases hp
         have h1:=Aqs hK Nc post pre hg (λ x hx=>by obtain ⟨g1,oi,g2,g3,g4,_⟩:=Ov x hx;exact ⟨g1,oi,g2,g3,g4⟩);exact Dt rfl (λ hy=>G1 (λ s hs=>⟨λ ⟨x,hx,h2⟩=>(LD x hx h2).elim,hs⟩) hy) id h1
       | kj+5,hg,hle,Lu,O7,hi=>simp[opB,Nc] at O7
     unfold wpOp;rw[hoj];simp only;have hgs:=Rb (ops:=l.toArray) hr main;rcases hgs with ⟨hw,hy⟩ | ⟨hw,hn⟩
     . rw[if_pos hw];refine .inl (Oper.wp_mono (λ a' w' hgd=>?_) (Ac0 hr hy Q));obtain ⟨s,F',M',⟨h1,h2⟩,KD⟩:=hgd;exact next KD h2 h1
     . rw[if_neg (by rw[hw];simp)];exact next (hr.put (.De [] #[] rfl (λ i d hd=>by simp at hd)) oj.dst) hn (λ hh=>by rw[Dg];exact Ie hh)
end
end Go.Am
namespace Go.Am
open Go
section
variable {P:Program} {l:List Oper} {hR:Hp}
theorem M4{K K':St->Prop}(hK:∀s,K s->K' s):∀(r:List (Nat×Nat)) {st:St},Gp P l hR r K st->Gp P l hR r K' st
 | [],st,h=>hK _ h
 | (i,kd)::r,st,h=>by
   simp only[Gp] at h ⊢;split at h
   . exact h.elim
   . rename_i o ho;(try simp only[ho]);refine Dt rfl (λ hy=>?_) (λ hn=>M4 hK r hn) h;split at hy
     . exact Rs.B7 (λ x hx=>M4 hK r hx) hy
     . exact Rs.B7 (λ x hx=>⟨hx.1,M4 hK r hx.2⟩) hy
     . exact G1 (λ s hs=>⟨hs.1,M4 hK r hs.2⟩) hy
     . exact G1 (λ s hs=>M4 hK r hs) hy
def wDg(P:Program)(o:Oper)(K:St->Prop)(st:St):Prop:=
 match C4 o.op with
 | some (f,args)=>(GV st f args).Jg (TQ P o K st) λ x=>K6 (TQ P o K st) P x.2.2 x.1 x.2.1 (o.dst.getD 0) λ d h'=>K (({st with hp:=h'}:St).put o.dst d)
 | none=>(JQ P st o).all λ x=>K (({st with hp:=x.2}:St).put o.dst x.1)
theorem Rs.My{α:Type}{S T:Prop}{k k':α->Prop}(hk:∀x,k x->k' x∨T)(hS:S->T):∀{r:Rs α},r.Jg S k->r.all k'∨T
 | .fail,h=> .inr (hS h)
 | .ret p x,h=>(hk x h.2).elim (λ h2=> .inl ⟨h.1,h2⟩) .inr
 | .split b x y,h=>by
   cases b
   . exact (Rs.My hk hS (h.2 rfl)).elim (λ h2=> .inl ⟨λ e=>(AI e).elim,λ _=>h2⟩) .inr
   . exact (Rs.My hk hS (h.1 rfl)).elim (λ h2=> .inl ⟨λ _=>h2,λ e=>(AI e.symm).elim⟩) .inr
theorem Aqm{o:Oper}{K:St->Prop}{st:St}(h:wDg P o K st):XE P o K st:=by
 unfold wDg at h;unfold XE PT;split at h
 . rename_i f args hc;(try simp only[hc]);refine (Rs.My (k':=λ x:FuncId×List D×Hp=>Hy P x.2.2 x.1 x.2.1 (o.dst.getD 0) λ d h'=>K (({st with hp:=h'}:St).put o.dst d)) (λ x hx=>QL hx) id h).imp (λ h2=>?_) id;exact Rs.E1 (Rs.B7 (λ x hx=>VO hx) h2)
 . rename_i hc;(try simp only[hc]);exact .inl (Rs.E1 h)
def Gw(P:Program)(l:List Oper)(hR:Hp):List (Nat×Nat)->(St->Prop)->St->Prop
 | [],K,st=>K st
 | (i,kd)::r,K,st=>match l[i]? with
   | none=>False
   | some o=>Fx st l o.guard (match kd with
     | 0=>(JQ P {st with hp:=hR} o).all λ x=>Gw P l hR r K (st.put o.dst x.1)
     | 1=>(Im P st (o.dst.getD 0) o.op).all λ x=>get st.hp (o.dst.getD 0)=none/\Gw P l hR r K (({st with hp:=(o.dst.getD 0,x.2)::st.hp}:St).put o.dst x.1)
     | 2=>wDg P o (λ s=>C5 s.hp hR/\Gw P l hR r K s) st
     | _=>wDg P o (Gw P l hR r K) st) (Gw P l hR r K (st.put o.dst (.De [])))
theorem VV{K:St->Prop}:∀(r:List (Nat×Nat)) {st:St},Gw P l hR r K st->Gp P l hR r K st
 | [],st,h=>h
 | (i,kd)::r,st,h=>by
   simp only[Gw] at h;simp only[Gp];split at h
   . exact h.elim
   . rename_i o ho;(try simp only[ho]);refine Dt rfl (λ hy=>?_) (λ hn=>VV r hn) h
     match kd,hy with
     | 0,hy=>exact Rs.B7 (λ x hx=>VV r hx) hy
     | 1,hy=>exact Rs.B7 (λ x hx=>⟨hx.1,VV r hx.2⟩) hy
     | 2,hy=>exact G1 (λ s hs=>⟨hs.1,VV r hs.2⟩) (Aqm hy)
     | kd+3,hy=>exact G1 (λ s hs=>VV r hs) (Aqm hy)
def G(P:Program)(l:List Oper)(hR:Hp)(r:List (Nat×Nat))(k:Kt)(st:St):Prop:=Gw P l hR r (k.E4 P .normal) st
theorem Ad1{p:List (Nat×Nat)}(h:Aaz l p=true):(p.map (·.1)).Nodup/\p.length=l.length/\Inv l p (Array.replicate l.length false):=by
 simp only[Aaz,Ar,beq_iff_eq] at h;obtain ⟨⟨⟨⟨h0,h1⟩,h2⟩,h3⟩,h4⟩:=h;have hlen:∀x∈p,x.1<l.length:=by
   intro x hx;have:=AB.1 h2 x hx;unfold opB at this;split at this
   . rename_i o ho;exact (An.1 ho).1
   . cases this
 have Ie:List.range l.length ⊆ p.map (·.1):=by
   intro i hi;have:=AB.1 h4 i hi;obtain ⟨x,hx,hxi⟩:=Bd.1 this;exact List.mem_map.2 ⟨x,hx,by simpa using hxi⟩
 have hnd:=U1 h0;refine ⟨hnd,h3,⟨λ k hk=>?_,by simp,λ k ok hk hl=>?_,h1,h2,hlen⟩⟩
 . rw[As,Array.getElem?_replicate,if_pos hk];refine ⟨λ _=>?_,λ _=>rfl⟩;obtain ⟨x,hx,hxi⟩:=AN.1 (Ie (List.mem_range.2 hk));exact ⟨x,hx,hxi⟩
 . exfalso;rw[As,Array.getElem?_replicate] at hl;split at hl<;>simp at hl
theorem Di{id:Nat}{p:List (Nat×Nat)}{k:Kt}{st:St}(hR:Hp)(hm:P.follows .mixedOrders=true)(hB:Aaz l p=true)(hle:C5 st.hp hR)(h:G P l hR p k st):X P (.region id l.toArray true) k st:=by
 refine .inr ⟨rfl,λ c a w F M hr=>?_⟩;obtain ⟨hnd,hl,hi⟩:=Ad1 hB;refine wp_region_any hm ?_;have LB:Rel c st a {w with drawn:=w.drawn+1} F M:=hr.drew;have:=Au0 (P:=P) (l:=l) (hR:=hR) (RH.of (k.E4 P .normal)) (c:=c) (Q:=QC c (k.E4 P)) (λ a w ⟨s,F,M,⟨s',he,hk⟩,hr⟩=>⟨s',F,M,hk,hr.eqv he⟩) l.length hl hnd LB
   (M4 (λ s hs=>⟨s,KE.refl s,hs⟩) p (VV p h)) (λ _=>hle) hi
 simpa using this
end
def Hd(kd:Nat)(h hR:Hp):Prop:=match kd with
 | 2=>C5 h hR
 | _=>True
theorem Atx(h hR:Hp):Hd 2 h hR=C5 h hR:=nd rfl
theorem An9(h hR:Hp):Hd 3 h hR=True:=nd rfl
def Gf(P:Program)(l:List Oper)(hR:Hp)(r:List (Nat×Nat))(k:Kt)(o:Oper)(st:St)(x:Rs (D×Hp)):Prop:=x.all λ x=>G P l hR r k (st.put o.dst x.1)
def Ga(P:Program)(l:List Oper)(hR:Hp)(r:List (Nat×Nat))(k:Kt)(o:Oper)(st:St)(x:Rs (D×AO)):Prop:=
 x.all λ x=>get st.hp (o.dst.getD 0)=none/\G P l hR r k (({st with hp:=(o.dst.getD 0,x.2)::st.hp}:St).put o.dst x.1)
def Gs(P:Program)(l:List Oper)(hR:Hp)(r:List (Nat×Nat))(k:Kt)(kd:Nat)(o:Oper)(st:St)(x:Rs (D×Hp)):Prop:=
 x.all λ x=>Hd kd x.2 hR/\G P l hR r k (({st with hp:=x.2}:St).put o.dst x.1)
def Bq(P:Program)(l:List Oper)(hR:Hp)(r:List (Nat×Nat))(k:Kt)(kd:Nat)(o:Oper)(st:St):Prop:=TQ P o (λ s=>Hd kd s.hp hR/\G P l hR r k s) st
def Gc(P:Program)(l:List Oper)(hR:Hp)(r:List (Nat×Nat))(k:Kt)(kd:Nat)(o:Oper)(st:St)(x:Rs (FuncId×List D×Hp)):Prop:=
 x.Jg (Bq P l hR r k kd o st) λ x=>K6 (Bq P l hR r k kd o st) P x.2.2 x.1 x.2.1 (o.dst.getD 0) λ d h'=>Hd kd h' hR/\G P l hR r k (({st with hp:=h'}:St).put o.dst d)
def Gk(P:Program)(l:List Oper)(hR:Hp)(r:List (Nat×Nat))(k:Kt)(kd:Nat)(dst:Option Nat)(st:St)(f:FuncId)(ds:List D)(h:Hp)(T:List Nat)(S:Prop):Prop:=
 (BV P f (HW (idx T base) ds) (sub h (idx T base) base T) λ h' x=>fresh (dst.getD 0) h h'/\Hd kd (merge T (dst.getD 0) h h') hR/\G P l hR r k (({st with hp:=merge T (dst.getD 0) h h'}:St).put dst (x.Ea (back T (dst.getD 0)))))∨S
def Ge(P:Program)(l:List Oper)(hR:Hp)(r:List (Nat×Nat))(k:Kt)(o:Oper)(st:St):Nat->Prop
 | 0=>Gf P l hR r k o st (JQ P {st with hp:=hR} o)
 | 1=>Ga P l hR r k o st (Im P st (o.dst.getD 0) o.op)
 | 2=>match C4 o.op with
   | some (f,args)=>Gc P l hR r k 2 o st (GV st f args)
   | none=>Gs P l hR r k 2 o st (JQ P st o)
 | _=>match C4 o.op with
   | some (f,args)=>Gc P l hR r k 3 o st (GV st f args)
   | none=>Gs P l hR r k 3 o st (JQ P st o)
def Gd(P:Program)(l:List Oper)(hR:Hp)(r:List (Nat×Nat))(k:Kt)(kd:Nat)(o:Oper)(st:St):Gv->Prop
 | .yes=>Ge P l hR r k o st kd
 | .no=>G P l hR r k (st.put o.dst (.De []))
 | .cond b=>VU b (Ge P l hR r k o st kd) (G P l hR r k (st.put o.dst (.De [])))
 | .bad=>False
def Gg(P:Program)(l:List Oper)(hR:Hp)(r:List (Nat×Nat))(k:Kt)(kd:Nat)(st:St):Option Oper->Prop
 | none=>False
 | some o=>Gd P l hR r k kd o st (JP st l o.guard)
section
variable {P:Program} {l:List Oper} {hR:Hp} {r:List (Nat×Nat)} {k:Kt} {o:Oper} {st:St} {kd:Nat} {b:Bool} {dst:Option Nat}
theorem XG{f:Operand}{args:List Operand}{K:St->Prop}(hc:C4 o.op=some (f,args)):wDg P o K st=(GV st f args).Jg (TQ P o K st) λ x=>K6 (TQ P o K st) P x.2.2 x.1 x.2.1 (o.dst.getD 0) λ d h'=>K (({st with hp:=h'}:St).put o.dst d):=by
 unfold wDg;rw[hc]
theorem XF{K:St->Prop}(hc:C4 o.op=none):wDg P o K st=(JQ P st o).all λ x=>K (({st with hp:=x.2}:St).put o.dst x.1):=by
 unfold wDg;rw[hc]
theorem Axi:G P l hR [] k st=J P k .normal st:=nd rfl
theorem Au8(i:Nat):G P l hR ((i,kd)::r) k st=Gg P l hR r k kd st l[i]?:=by
 unfold G;simp only[Gw];cases l[i]? with
 | none=>rfl
 | some o=>
   simp only[Gg];rw[GR];have e:(match kd with
     | 0=>(JQ P {st with hp:=hR} o).all λ x=>Gw P l hR r (k.E4 P .normal) (st.put o.dst x.1)
     | 1=>(Im P st (o.dst.getD 0) o.op).all λ x=>get st.hp (o.dst.getD 0)=none/\Gw P l hR r (k.E4 P .normal) (({st with hp:=(o.dst.getD 0,x.2)::st.hp}:St).put o.dst x.1)
     | 2=>wDg P o (λ s=>C5 s.hp hR/\Gw P l hR r (k.E4 P .normal) s) st
     | _=>wDg P o (Gw P l hR r (k.E4 P .normal)) st)=Ge P l hR r k o st kd:=by
     match kd with
     | 0=>rfl
     | 1=>rfl
     | 2=>
       simp only[Ge];cases hc:C4 o.op with
       | none=>simp only[XF hc,Dg];rfl
       | some x=>obtain ⟨f,args⟩:=x;simp only[XG hc,Gc,Bq,Hd,Dg];rfl
     | kd+3=>
       simp only[Ge];cases hc:C4 o.op with
       | none=>simp only[XF hc,Gs,Hd,true_and];rfl
       | some x=>obtain ⟨f,args⟩:=x;simp only[XG hc,Gc,Bq,Hd,true_and];rfl
   cases JP st l o.guard with
   | yes=>exact e
   | no=>rfl
   | bad=>rfl
   | cond b=>exact AQ (λ x=>VU b x (Gw P l hR r (k.E4 P .normal) (st.put o.dst (.De [])))) e
theorem Aqc:Gg P l hR r k kd st (some o)=Gd P l hR r k kd o st (JP st l o.guard):=nd rfl
theorem Au5:Gd P l hR r k kd o st .yes=Ge P l hR r k o st kd:=nd rfl
theorem Axh:Gd P l hR r k kd o st .no=G P l hR r k (st.put o.dst (.De [])):=nd rfl
theorem Aqg:Gd P l hR r k kd o st (.cond true)=Ge P l hR r k o st kd:=by simp[Gd]
theorem Ane:Gd P l hR r k kd o st (.cond false)=G P l hR r k (st.put o.dst (.De [])):=by simp[Gd]
theorem Aqe:Ge P l hR r k o st 0=Gf P l hR r k o st (JQ P {st with hp:=hR} o):=nd rfl
theorem Au4:Ge P l hR r k o st 1=Ga P l hR r k o st (Im P st (o.dst.getD 0) o.op):=nd rfl
theorem Au3:Ge P l hR r k o st 2=match C4 o.op with
   | some (f,args)=>Gc P l hR r k 2 o st (GV st f args)
   | none=>Gs P l hR r k 2 o st (JQ P st o):=nd rfl
theorem Anc:Ge P l hR r k o st 3=match C4 o.op with
   | some (f,args)=>Gc P l hR r k 3 o st (GV st f args)
   | none=>Gs P l hR r k 3 o st (JQ P st o):=nd rfl
theorem Aqf:Ge P l hR r k o st 4=match C4 o.op with
   | some (f,args)=>Gc P l hR r k 3 o st (GV st f args)
   | none=>Gs P l hR r k 3 o st (JQ P st o):=nd rfl
theorem Au2(p:Prop)(d:D)(h:Hp):Gf P l hR r k o st (.ret p (d,h))=(p/\G P l hR r k (st.put o.dst d)):=nd rfl
theorem Aqd(x y:Rs (D×Hp)):Gf P l hR r k o st (.split true x y)=Gf P l hR r k o st x:=by simp[Gf,Rs.all]
theorem Anb(x y:Rs (D×Hp)):Gf P l hR r k o st (.split false x y)=Gf P l hR r k o st y:=by simp[Gf,Rs.all]
theorem Au7(p:Prop)(d:D)(ao:AO):Ga P l hR r k o st (.ret p (d,ao))=(p/\get st.hp (o.dst.getD 0)=none/\G P l hR r k (({st with hp:=(o.dst.getD 0,ao)::st.hp}:St).put o.dst d)):=nd rfl
theorem Atz(p:Prop)(d:D)(h:Hp):Gs P l hR r k kd o st (.ret p (d,h))=(p/\Hd kd h hR/\G P l hR r k (({st with hp:=h}:St).put o.dst d)):=nd rfl
theorem Au6(p:Prop)(f:FuncId)(ds:List D)(h:Hp):Gc P l hR r k kd o st (.ret p (f,ds,h))=
   (p/\(DF h (C6 ds)).Nodup/\((DF h (C6 ds)).all λ id=>(get h id).isSome)=true/\Gk P l hR r k kd o.dst st f ds h (DF h (C6 ds)) (Bq P l hR r k kd o st)):=nd rfl
end
def Cc(P:Program)(s:Bool)(ops rest:List Oper)(k:Kt)(dst:Option Nat)(st:St)(h:Hp)(T:List Nat)(f:FuncId)(ds:List D)(hs:Hp)(S:Prop):Prop:=
 (BV P f ds hs λ h' r=>fresh (dst.getD 0) h h'/\O P s ops rest k (({st with hp:=merge T (dst.getD 0) h h'}:St).put dst (r.Ea (back T (dst.getD 0)))))∨S
theorem Axl(P:Program)(s:Bool)(ops rest:List Oper)(k:Kt)(dst:Option Nat)(st:St)(f:FuncId)(ds:List D)(h:Hp)(T:List Nat)(S:Prop):
   Ck P s ops rest k dst st f ds h T S=Cc P s ops rest k dst st h T f (HW (idx T base) ds) (sub h (idx T base) base T) S:=nd rfl
theorem DY{P:Program}{s:Bool}{ops rest:List Oper}{k:Kt}{dst:Option Nat}{st:St}{h:Hp}{T:List Nat}{f:FuncId}{ds:List D}{hs:Hp}{S:Prop}{R:Hp->D->Prop}(hc:BV P f ds hs R)
   (hk:∀h' r,R h' r->fresh (dst.getD 0) h h'/\O P s ops rest k (({st with hp:=merge T (dst.getD 0) h h'}:St).put dst (r.Ea (back T (dst.getD 0))))):Cc P s ops rest k dst st h T f ds hs S:= .inl (hc.mono hk)
def Kc(P:Program)(f:FuncId)(ds:List D)(hs h:Hp)(T:List Nat)(q:Nat)(k:D->Hp->Prop):Prop:=BV P f ds hs λ h' r=>fresh q h h'/\k (r.Ea (back T q)) (merge T q h h')
theorem TO{P:Program}{f:FuncId}{ds:List D}{hs h:Hp}{T:List Nat}{q:Nat}{k:D->Hp->Prop}{R:Hp->D->Prop}(hc:BV P f ds hs R)
   (hk:∀h' r,R h' r->fresh q h h'/\k (r.Ea (back T q)) (merge T q h h')):Kc P f ds hs h T q k:=hc.mono hk
theorem Je(P:Program)(h:Hp)(f:FuncId)(ds:List D)(q:Nat)(k:D->Hp->Prop):
   Hy P h f ds q k=((DF h (C6 ds)).Nodup/\((DF h (C6 ds)).all λ id=>(get h id).isSome)=true/\
     Kc P f (HW (idx (DF h (C6 ds)) base) ds) (sub h (idx (DF h (C6 ds)) base) base (DF h (C6 ds))) h (DF h (C6 ds)) q k):=nd rfl
theorem Om{P:Program}{ops rest:List Oper}{k:Kt}{dst:Option Nat}{st:St}{h:Hp}{T:List Nat}{f:FuncId}{ds:List D}{hs:Hp}{o:Oper}{fo:Operand}{args:List Operand}{g:FuncId}{cap:List D}
   (hc:C4 o.op=some (fo,args)) (hg:ev st fo= .fn g cap) (hk:Hy P st.hp g (args.map (ev st)++cap) (o.dst.getD 0) λ d h'=>O P true ops rest k (({st with hp:=h'}:St).put o.dst d)):
   Cc P true ops rest k dst st h T f ds hs (Sm P true ops rest k o st):=by
 refine .inr ⟨rfl,λ c a w F M Q hr=>?_⟩;exact Ad6 hr hc hg hk Q
def Gh(P:Program)(l:List Oper)(hR:Hp)(r:List (Nat×Nat))(k:Kt)(kd:Nat)(dst:Option Nat)(st:St)(h:Hp)(T:List Nat)(f:FuncId)(ds:List D)(hs:Hp)(S:Prop):Prop:=
 (BV P f ds hs λ h' x=>fresh (dst.getD 0) h h'/\Hd kd (merge T (dst.getD 0) h h') hR/\G P l hR r k (({st with hp:=merge T (dst.getD 0) h h'}:St).put dst (x.Ea (back T (dst.getD 0)))))∨S
theorem Axg(P:Program)(l:List Oper)(hR:Hp)(r:List (Nat×Nat))(k:Kt)(kd:Nat)(dst:Option Nat)(st:St)(f:FuncId)(ds:List D)(h:Hp)(T:List Nat)(S:Prop):
   Gk P l hR r k kd dst st f ds h T S=Gh P l hR r k kd dst st h T f (HW (idx T base) ds) (sub h (idx T base) base T) S:=nd rfl
theorem Abw{P:Program}{l:List Oper}{hR:Hp}{r:List (Nat×Nat)}{k:Kt}{kd:Nat}{dst:Option Nat}{st:St}{h:Hp}{T:List Nat}{f:FuncId}{ds:List D}{hs:Hp}{S:Prop}{R:Hp->D->Prop}(hc:BV P f ds hs R)
   (hk:∀h' x,R h' x->fresh (dst.getD 0) h h'/\Hd kd (merge T (dst.getD 0) h h') hR/\G P l hR r k (({st with hp:=merge T (dst.getD 0) h h'}:St).put dst (x.Ea (back T (dst.getD 0))))):Gh P l hR r k kd dst st h T f ds hs S:= .inl (hc.mono hk)
theorem Axm{P:Program}{l:List Oper}{hR:Hp}{r:List (Nat×Nat)}{k:Kt}{kd:Nat}{o:Oper}{st:St}{fo:Operand}{args:List Operand}{g:FuncId}{cap ds:List D}{R:Hp->D->Prop}
   (ho:C4 o.op=some (fo,args)) (hg:ev st fo= .fn g cap) (hc:BV P g ds [] R) (hb:KC st.hp (args.map (ev st)++cap) ds)
   (hk:∀h x,R h x->h=[]/\x.flat=true/\Hd kd st.hp hR/\G P l hR r k (st.put o.dst x)):Bq P l hR r k kd o st:=
 ⟨fo,args,g,cap,ds,ho,hg,hb,hc.mono λ h x hx=>by
   obtain ⟨h1,h2,h3,h4⟩:=hk h x hx;exact ⟨h1,by rw[Dg];exact h3,by rw[Se h2];exact h4⟩⟩
theorem Au1{P:Program}{l:List Oper}{hR:Hp}{r:List (Nat×Nat)}{k:Kt}{kd:Nat}{o:Oper}{st:St}{fo:Operand}{args:List Operand}{g:FuncId}{cap ds:List D}{R:Hp->D->Prop}{dst:Option Nat}{h:Hp}{T:List Nat}{f':FuncId}{Y2:List D}{hs:Hp}{st':St}
   (ho:C4 o.op=some (fo,args)) (hg:ev st fo= .fn g cap) (hc:BV P g ds [] R) (hb:KC st.hp (args.map (ev st)++cap) ds)
   (hk:∀h x,R h x->h=[]/\x.flat=true/\Hd kd st.hp hR/\G P l hR r k (st.put o.dst x)):Gh P l hR r k kd dst st' h T f' Y2 hs (Bq P l hR r k kd o st):= .inr (Axm ho hg hc hb hk)
theorem Ats{P:Program}{ops rest:List Oper}{k:Kt}{st:St}{o:Oper}{fo:Operand}{args:List Operand}{g:FuncId}{cap ds:List D}{R:Hp->D->Prop}
   (ho:C4 o.op=some (fo,args)) (hg:ev st fo= .fn g cap) (hc:BV P g ds [] R) (hb:KC st.hp (args.map (ev st)++cap) ds)
   (hk:∀h x,R h x->h=[]/\x.flat=true/\O P true ops rest k (st.put o.dst x)):Sm P true ops rest k o st:=
 ⟨rfl,λ c a w F M Q hr=>On hr ⟨fo,args,g,cap,ds,ho,hg,hb,hc.mono λ h x hx=>by
   obtain ⟨h1,h2,h3⟩:=hk h x hx;exact ⟨h1,by rw[Se h2];exact h3⟩⟩ Q⟩
theorem Aqi{P:Program}{ops rest:List Oper}{k:Kt}{dst:Option Nat}{st st':St}{h:Hp}{T:List Nat}{f':FuncId}{Y2:List D}{hs:Hp}{o:Oper}{fo:Operand}{args:List Operand}{g:FuncId}{cap ds:List D}{R:Hp->D->Prop}
   (ho:C4 o.op=some (fo,args)) (hg:ev st fo= .fn g cap) (hc:BV P g ds [] R) (hb:KC st.hp (args.map (ev st)++cap) ds)
   (hk:∀h x,R h x->h=[]/\O P true ops rest k (st.put o.dst x.Hr)):Cc P true ops rest k dst st' h T f' Y2 hs (Sm P true ops rest k o st):=
 .inr ⟨rfl,λ c a w F M Q hr=>On hr ⟨fo,args,g,cap,ds,ho,hg,hb,hc.mono hk⟩ Q⟩
theorem Aah{P:Program}{ops rest:List Oper}{k:Kt}{dst:Option Nat}{st st':St}{h:Hp}{T:List Nat}{f':FuncId}{Y2:List D}{hs:Hp}{o:Oper}{fo:Operand}{args:List Operand}{g:FuncId}{cap ds:List D}{R:Hp->D->Prop}
   (ho:C4 o.op=some (fo,args)) (hg:ev st fo= .fn g cap) (hc:BV P g ds [] R) (hb:KC st.hp (args.map (ev st)++cap) ds)
   (hk:∀h x,R h x->h=[]/\x.flat=true/\O P true ops rest k (st.put o.dst x)):Cc P true ops rest k dst st' h T f' Y2 hs (Sm P true ops rest k o st):= .inr (Ats ho hg hc hb hk)
attribute [go_sem] Rt Axl Axg base AO.Ea fresh merge back NL pick List.filter_cons List.filter_nil List.mem_cons List.not_mem_nil or_false false_or or_true true_or List.nodup_cons List.contains_cons List.contains_nil Bool.or_false Bool.or_true Bool.false_or Bool.true_or
attribute [go_sem] Atx An9 Axi Au8 Aqc Au5 Axh Aqg Ane Aqe Au4 Au3 Anc Aqf Au2 Aqd Anb D.Hr Ib Pd.flat Au7 Atz Au6 Im FC C5
end Go.Am
end
