/- Texts of this proof, what it rests on, merged: part C. -/
import Derived.ChangeArms
import Derived.ChangeSame
import Derived.OpenShut
import Derived.RowKit
import Derived.Test.YtjbklifaekjilaaGreatDoorLpB
section
set_option linter.unusedVariables false
set_option linter.unusedSimpArgs false
namespace Go.Am
open Go Go.ChangeShapes Go.RowKit
def Ve(P:Program):Nat->List Field->Option Nat
 | o,[]=>some o
 | o,f::r=>if f.offset=o then Ve P (o+P.cellsOf f.type) r else none
def EF(P:Program):Nat->TypeId->Bool
 | 0,_=>false
 | n+1,t=>match P.underlying t with
   | some .bool | some (.int _) | some .string=>true
   | some (.slice e)=>decide (0<P.cellsOf e)&&EF P n e
   | some (.struct fs)=>decide (Ve P 0 fs.toList=some (P.cellsOf t))&&fs.toList.all λ f=>EF P n f.type
   | some (.array m e)=>decide (m*P.cellsOf e=P.cellsOf t)&&EF P n e
   | _=>false
mutual
def E7 {H:Type}:DataW H->List Pd
  | .lit (.int k n)=>[.int k n]
  | .lit (.bool b)=>[.bool b]
  | .lit (.string l)=>[.str l]
  | .nil=>[.sl []]
  | .slice elems _=>[.sl (Ae2 elems)]
  | .agg parts=>Mr parts
  | _=>[]
def Ae2 {H:Type}:List (DataW H)->List (List Pd)
  | []=>[]
  | d::r=>E7 d::Ae2 r
def Mr {H:Type}:List (DataW H)->List Pd
  | []=>[]
  | d::r=>E7 d++Mr r
end
def Apr{H:Type}(d:DataW H):D:= .p ((E7 d).getD 0 (.bool false))
def PRl(F:Nat->Prop)(w:World)(xs:List Pd)(vs:List Value):Prop:=xs.length=vs.length/\∀(i:Nat) x,xs[i]?=some x->PR F w x (vs.getD i undef)
section
variable {H:Type} {enc:TypeId×Value->H} {P:Program} {w:World} {spare:Nat->Bool} {held:Bool}
theorem PRl.append{F:Nat->Prop}{xs ys:List Pd}{vs ws:List Value}(h:PRl F w xs vs)(h':PRl F w ys ws):PRl F w (xs++ys) (vs++ws):=by
 refine ⟨by simp[h.1,h'.1],λ i x hx=>?_⟩;rw[AL] at hx;rw[Av,AL,<-h.1];split at hx
 . rename_i hl;rw[if_pos hl];simpa [List.getD] using h.2 i x hx
 . rename_i hl;rw[if_neg hl];simpa [List.getD] using h'.2 _ x hx
theorem PRl.one{F:Nat->Prop}{x:Pd}{v:Value}(h:PR F w x v):PRl F w [x] [v]:=by
 refine ⟨rfl,λ i y hy=>?_⟩;cases i with
 | zero=>simp only[AK,Al] at hy;subst hy;exact h
 | succ i=>simp at hy
theorem QK{F:Nat->Prop}{cs:List Value}{n:Nat}{m:Nat}(ih:∀t,EF P m t=true->∀cs x,DataW.trod enc P w 0 spare held n t cs=some x->PRl F w (E7 x.1) cs):
   ∀(fs:List Field) (xs:List (DataW H×List MemPlace)) (o tot:Nat),xs.length=fs.length->Ve P o fs=some tot->cs.length=tot->(fs.all λ f=>EF P m f.type)=true->
     (∀(i:Nat) (f:Field),fs[i]?=some f->DataW.trod enc P w 0 spare held n f.type ((cs.drop f.offset).take (P.cellsOf f.type))=xs[i]?)->PRl F w (Mr (xs.map (·.1))) (cs.drop o)
 | [],xs,o,tot,hl,hc,hcs,_,_=>by
   have:xs=[]:=AY hl;subst this;simp only[Ve,Al] at hc;subst hc;rw[BB (by omega)];exact ⟨rfl,λ i x hx=>by simp[Mr] at hx⟩
 | f::r,xs,o,tot,hl,hc,hcs,hp,hx=>by
   cases xs with
   | nil=>simp at hl
   | cons x xs=>
     simp only[Ve] at hc;split at hc
     case isFalse=>cases hc
     rename_i ho;simp only[List.all_cons,As] at hp;have h0:=hx 0 f rfl;simp only[AK] at h0;have h1:=ih f.type hp.1 _ _ h0;have h2:=QK ih r xs (o+P.cellsOf f.type) tot (by simpa using hl) hc hcs hp.2 (λ i g hg=>by simpa using hx (i+1) g (by simpa using hg));have e:cs.drop o=(cs.drop f.offset).take (P.cellsOf f.type)++cs.drop (o+P.cellsOf f.type):=by
       rw[ho,<-List.drop_drop,List.take_append_drop]
     rw[e];simp only[AH,Mr];exact h1.append h2
theorem SK{F:Nat->Prop}{cs:List Value}{e:TypeId}{n k:Nat}(ih:∀cs x,DataW.trod enc P w 0 spare held n e cs=some x->PRl F w (E7 x.1) cs):
   ∀(xs:List (DataW H×List MemPlace)) (i0:Nat),cs.length=(i0+xs.length)*k->(∀i,i<xs.length->DataW.trod enc P w 0 spare held n e ((cs.drop ((i0+i)*k)).take k)=xs[i]?)->
     PRl F w (Mr (xs.map (·.1))) (cs.drop (i0*k))
 | [],i0,hl,_=>by
   rw[BB (by simp at hl;omega)];exact ⟨rfl,λ i x hx=>by simp[Mr] at hx⟩
 | x::xs,i0,hl,hx=>by
   have h0:=hx 0 (by simp);simp only[Bu,AK] at h0;have h1:=ih _ _ h0;have h2:=SK ih xs (i0+1) (by rw[hl];simp only[An];rw[show i0+(xs.length+1)=i0+1+xs.length by omega]) (λ i hi=>by
     have:=hx (i+1) (by simp only[An];omega);rw[show i0+(i+1)=i0+1+i by omega] at this
     simpa using this)
   have e:cs.drop (i0*k)=(cs.drop (i0*k)).take k++cs.drop ((i0+1)*k):=by
     rw[A2,Nat.one_mul,<-List.drop_drop,List.take_append_drop]
   rw[e];simp only[AH,Mr];exact h1.append h2
theorem RY{base n:Nat}{a:Addr}{cs:List Value}(h:w.cells? base a n=some cs):cs.length=n/\∀j,j<n->w.cell? (a.add j)=cs[j]?:=by
 unfold World.cells? at h;split at h
 . exact ⟨by simpa using mapM_some_length h,λ j hj=>mapM_some_get h j j (by simp[hj])⟩
 . cases h
theorem Xb(xs:List (DataW H×List MemPlace)):Ae2 (xs.map (·.1))=xs.map λ x=>E7 x.1:=by
 induction xs with
 | nil=>rfl
 | cons x r ih=>simp[Ae2,ih]
theorem Aa4{w:World}{a:Addr}{v:Value}(h:w.cell? a=some v):∃c t fr,w.heap[a.block]?=some (.cells c t fr)/\a.spot=none/\c[a.off]?=some v:=by
 unfold World.cell? at h;split at h
 . rename_i c t fr hb;split at h
   . cases h
   . rename_i hs;exact ⟨c,t,fr,hb,by simpa using hs,h⟩
 . cases h
theorem At8{F:Nat->Prop}(hF:∀b,b<w.heap.size->F b):∀(m:Nat) (t:TypeId),EF P m t=true->∀(fuel:Nat) (cs:List Value) (x:DataW H×List MemPlace),
   DataW.trod enc P w 0 spare held fuel t cs=some x->PRl F w (E7 x.1) cs:=by
 intro m
 induction m with
 | zero=>intro t h;simp[EF] at h
 | succ m ih=>
   intro t ht fuel cs x h;simp only[EF] at ht;split at ht
   . rename_i hu;obtain ⟨b,rfl,rfl⟩:=DataW.trod_bool hu h;exact .one (.bool b)
   . rename_i k hu;obtain ⟨n,rfl,rfl,_⟩:=DataW.trod_int hu h;exact .one (.int k n)
   . rename_i hu;obtain ⟨s,rfl,rfl,_⟩:=DataW.trod_string hu h;have:=PR.str (F:=F) (w:=w) s.data.toList;exact .one (by simpa using this)
   . rename_i e hu;simp only[As,Au] at ht;obtain ⟨hk,hpe⟩:=ht;rcases DataW.trod_slice hu h with ⟨rfl,rfl⟩ | ⟨a,len,cap,elems,rest,n,rfl,rfl,rfl,hb,hl,hc,hel,Cx,_,_⟩
     . exact .one (.Zq none 0)
     . refine .one ?_;simp only[Xb];have hg:∀(i:Nat) y,elems[i]?=some y->∃cs',w.cells? 0 (a.add (i*P.cellsOf e)) (P.cellsOf e)=some cs'/\PRl F w (E7 y.1) cs':=by
         intro i y hy;have hi:i<len:=by rw[<-hel];exact (Ao.1 hy).1
         have:=Cx i hi;rw[hy] at this;obtain ⟨cs',h1,h2⟩:=Option.bind_eq_some_iff.1 this;exact ⟨cs',h1,ih e hpe _ _ _ h2⟩
       have IP:∀(i:Nat) z,(elems.map λ x=>E7 x.1)[i]?=some z->∃y,elems[i]?=some y/\z=E7 y.1:=by
         intro i z hz;rw[AS] at hz;cases hy:elems[i]? with
         | none=>rw[hy] at hz;cases hz
         | some y=>rw[hy] at hz;cases hz;exact ⟨y,rfl,rfl⟩
       by_cases h0:len=0
       . have:elems=[]:=AY (hel.trans h0);subst this;subst h0;exact .Zq (some a) cap
       . have h00:∃y,elems[0]?=some y:=⟨_,Az (by omega)⟩;obtain ⟨y,hy⟩:=h00;obtain ⟨cs',h1,_⟩:=hg 0 y hy;obtain ⟨hln,OQ⟩:=RY h1;have S5:=OQ 0 hk;rw[Az (by omega)] at S5;obtain ⟨c,te,fr,hh,Ati,_⟩:=Aa4 S5;obtain ⟨b,off,spot⟩:=a;simp[Addr.add] at hh Ati;subst Ati;have De:∀(i:Nat) z (j:Nat) q,(elems.map λ x=>E7 x.1)[i]?=some z->z[j]?=some q->∃v,c[off+i*P.cellsOf e+j]?=some v/\PR F w q v:=by
           intro i z j q hz hq;obtain ⟨y,hy,rfl⟩:=IP i z hz;obtain ⟨cs2,h3,h4⟩:=hg i y hy;obtain ⟨Bbr,Avi⟩:=RY h3;have hj:j<P.cellsOf e:=by
             have:=(Ao.1 hq).1;rw[h4.1,Bbr] at this;exact this
           have h5:=Avi j hj;rw[Az (by omega)] at h5;obtain ⟨c2,te2,fr2,OB,_,h6⟩:=Aa4 h5;simp only[Addr.add_lit] at OB h6;rw[hh] at OB;cases OB;refine ⟨_,h6,?_⟩;have:=h4.2 j q hq;rwa[Av,Az (by omega)] at this
         have hlen:(elems.map λ x=>E7 x.1).length=len:=by simp[hel]
         have:=PR.sl (F:=F) (w:=w) (elems.map λ x=>E7 x.1) b off cap (P.cellsOf e) c te fr (hF b (Be.1 hh).1) hh (by omega)
           (λ i z hz=>by
             obtain ⟨y,hy,rfl⟩:=IP i z hz;obtain ⟨cs2,h3,h4⟩:=hg i y hy;rw[h4.1,(RY h3).1])
           (λ i z j q hz hq=>by obtain ⟨v,hv,_⟩:=De i z j q hz hq;exact (Be.1 hv).1)
           (λ i z j q hz hq=>by
             obtain ⟨v,hv,hp⟩:=De i z j q hz hq;rw[At,hv];exact hp)
         rwa[hlen] at this
   . rename_i fs hu;simp only[As,Au] at ht;obtain ⟨xs,n,rfl,rfl,hl,hxl,Cx⟩:=DataW.trod_struct hu h;have:=QK (F:=F) (cs:=cs) (λ t ht cs x hx=>ih t ht n cs x hx) fs.toList xs 0 _ (by simpa using hxl) ht.1 hl ht.2 (λ i f hf=>Cx i f (by simpa using hf))
     simpa [E7] using this
   . rename_i k e hu;simp only[As,Au] at ht;obtain ⟨xs,n,rfl,rfl,hl,hxl,Cx⟩:=DataW.trod_array hu h;have:=SK (F:=F) (cs:=cs) (λ cs x hx=>ih e ht.2 n cs x hx) xs 0 (by rw[hl,hxl,Bf,ht.1]) (λ i hi=>by rw[Bf];exact Cx i (by omega))
     simpa [E7] using this
   . cases ht
end
end Go.Am
namespace Go.Am
open Go Go.ChangeShapes Go.RowKit
section
variable {H:Type} {enc:TypeId×Value->H} {P:Program} {w:World} {held:Bool}
theorem Auf{sp:Nat->Bool}:∀(m:Nat) (t:TypeId),EF P m t=true->∀(fuel:Nat) (cs:List Value) (x:DataW H×List MemPlace),
   DataW.trod enc P w 0 (λ _=>true) held fuel t cs=some x->(∀p∈x.2,sp p.block=true)->DataW.trod enc P w 0 sp held fuel t cs=some x:=by
 intro m
 induction m with
 | zero=>intro t h;simp[EF] at h
 | succ m ih=>
   intro t ht fuel cs x h H8;cases fuel with
   | zero=>simp[DataW.trod] at h
   | succ n=>
   simp only[EF] at ht;split at ht
   . rename_i hu;obtain ⟨b,rfl,rfl⟩:=DataW.trod_bool hu h;simp[DataW.trod,hu]
   . rename_i k hu;obtain ⟨j,rfl,rfl,hw⟩:=DataW.trod_int hu h;simp[DataW.trod,hu,hw]
   . rename_i hu;obtain ⟨s,rfl,rfl,hl⟩:=DataW.trod_string hu h;simp[DataW.trod,hu,hl]
   . rename_i e hu;simp only[As,Au] at ht;obtain ⟨hk,hpe⟩:=ht;unfold DataW.trod at h ⊢;rw[hu] at h ⊢;split at h;all_goals first | (simp_all;done) | skip
     rename_i e1 a len cap he;simp only[Al,TypeDesc.slice.injEq] at he;subst he;simp only at h ⊢;split at h
     case isFalse=>cases h
     rename_i hb;rw[if_pos hb];simp only[Option.bind_eq_some_iff,BO,AP] at h ⊢;obtain ⟨elems,hel,rest,hre,rfl⟩:=h;have N9:∀y∈elems++rest,∀p∈y.2,sp p.block=true:=λ y hy p hp=>H8 p (by
       simp only[Aw,BU];exact .inr ⟨y,by simpa using hy,hp⟩)
     have step:∀(i:Nat) (y:DataW H×List MemPlace),y∈elems++rest->(w.cells? 0 (a.add (i*P.cellsOf e)) (P.cellsOf e)).bind (DataW.trod enc P w 0 (λ _=>true) held n e)=some y->
         (w.cells? 0 (a.add (i*P.cellsOf e)) (P.cellsOf e)).bind (DataW.trod enc P w 0 sp held n e)=some y:=by
       intro i y hy h1;obtain ⟨cs',h2,h3⟩:=Option.bind_eq_some_iff.1 h1;exact Option.bind_eq_some_iff.2 ⟨cs',h2,ih e hpe _ _ _ h3 (N9 y hy)⟩
     refine ⟨elems,mapM_carry hel (λ i y _ hy h1=>step i y (by simp[hy]) h1),rest,?_,rfl⟩;by_cases hc:cap - len=0
     . rw[hc] at hre ⊢;split
       . exact hre
       . simpa using hre
     . have hrl:rest.length=cap - len:=by simpa using mapM_some_length hre
       have Pv:sp a.block=true:=H8 (.cell a.block a.off) (by
         simp only[Aw];refine .inl (MemPlace.mem_row.2 ⟨0,?_,by simp⟩);exact Nat.mul_pos (by omega) hk)
       rw[if_pos Pv];exact mapM_carry hre (λ j y _ hy h1=>step (len+j) y (by simp[hy]) h1)
   . rename_i fs hu;simp only[As,Au] at ht;unfold DataW.trod at h ⊢;rw[hu] at h ⊢;split at h;all_goals first | (simp_all;done) | skip
     rename_i fs' he;simp only[Al,TypeDesc.struct.injEq] at he;subst he;(try simp only at h);split at h
     case isFalse=>cases h
     rename_i hl;rw[if_pos hl];simp only[BO] at h ⊢;obtain ⟨xs,hx,rfl⟩:=h;refine ⟨xs,mapM_carry hx (λ f y hf hy h1=>ih f.type (AB.1 ht.2 f hf) _ _ _ h1 λ p hp=>H8 p ?_),rfl⟩;simp only[BU];exact ⟨y,hy,hp⟩
   . rename_i k e hu;simp only[As,Au] at ht;unfold DataW.trod at h ⊢;rw[hu] at h ⊢;split at h;all_goals first | (simp_all;done) | skip
     rename_i k' e' he;simp only[Al,TypeDesc.array.injEq] at he;obtain ⟨rfl,rfl⟩:=he;(try simp only at h);split at h
     case isFalse=>cases h
     rename_i hl;rw[if_pos hl];simp only[BO] at h ⊢;obtain ⟨xs,hx,rfl⟩:=h;refine ⟨xs,mapM_carry hx (λ i y _ hy h1=>ih _ ht.2 _ _ _ h1 λ p hp=>H8 p ?_),rfl⟩;simp only[BU];exact ⟨y,hy,hp⟩
   . cases ht
end
def Aug(P:Program)(t:TypeId):Bool:=EF P 30 t&&match P.underlying t with
 | some (.struct _)=>false
 | some (.array _ _)=>false
 | _=>true
section
variable {H:Type} {enc:TypeId×Value->H} {P:Program} {W:World}
theorem Aj4{t:TypeId}{v:Value}{d:DataW H}{ps:List MemPlace}{sp:Nat->Bool}{M:Nat->Mb}{s:Nat->Option Sg}(ht:Aug P t=true){bs:Nat}(Qx:Value.okWide P W .any bs t v)
   (h:DataW.Trod enc P W 0 sp true t v d ps):DR (λ b=>b<W.heap.size) W M s (Apr d) v:=by
 unfold Aug at ht;simp only[As] at ht;obtain ⟨hp,hs⟩:=ht;obtain ⟨fuel,hf⟩:=h;have h1:=At8 (F:=λ b=>b<W.heap.size) (λ _ h=>h) 30 t hp _ _ _ hf;have Ks:v.cells=#[v]:=by
   cases v with
   | agg cs=>
     exfalso;unfold Value.okWide Cell.okWide Cell.ok at Qx;cases hu:P.underlying t with
     | none=>rw[hu] at Qx;simp at Qx
     | some u=>rw[hu] at Qx hs;cases u<;>simp[EF,hu] at Qx hs hp
   | _=>rfl
 rw[Ks] at h1;have hl:(E7 d).length=1:=h1.1;obtain ⟨x,hx⟩:=List.length_eq_one_iff.1 hl;unfold Apr;simp only[hx,AX];have:=h1.2 0 x (by simp[hx]);exact .p this
theorem Z0{W W':World}(hos:W'.os=W.os)(V0:W'.output=W.output)(h:∀b,b<W.heap.size->W'.heap[b]?=W.heap[b]?)(may:MemPlace->Prop):W.keptBut W' may:=by
 refine ⟨hos,V0,λ i hi=>?_⟩;rw[h i hi];split
 . rename_i h1 h2;cases h1.symm.trans h2;exact ⟨rfl,rfl,rfl,λ _ _=>rfl⟩
 . rename_i h1 h2;cases h1.symm.trans h2;exact .inr ⟨rfl,rfl⟩
 . rfl
end
end Go.Am
namespace Go.Am
open Go
def HX(e h h':Hp):Prop:=∀id,get h' id=match get h id with | some o=>some o | none=>get e id
theorem JZ{α:Type}{p:Prop}{k:α->Prop}:∀{r:Rs α},p->r.all k->(r.and p).all k
 | .fail,_,h=>h.elim
 | .ret q a,hp,h=>⟨⟨hp,h.1⟩,h.2⟩
 | .split b x y,hp,h=>⟨λ e=>JZ hp (h.1 e),λ e=>JZ hp (h.2 e)⟩
theorem Ct{α β:Type}{f:α->Rs β}{k:β->Prop}:∀{r:Rs α},r.all (λ a=>(f a).all k)->(r.bind f).all k
 | .fail,h=>h.elim
 | .ret p a,h=>JZ h.1 h.2
 | .split b x y,h=>⟨λ e=>Ct (h.1 e),λ e=>Ct (h.2 e)⟩
section
variable {P:Program} {e h h':Hp}
theorem HX.sm(hx:HX e h h'){id:Nat}{o:AO}(hg:get h id=some o):get h' id=some o:=by rw[hx,hg]
theorem HX.nn(hx:HX e h h'){id:Nat}(hg:get h id=none)(he:get e id=none):get h' id=none:=by rw[hx,hg];exact he
theorem HX.sg(hx:HX e h h'){id:Nat}{s:Sg}(hg:sg h id=some s):sg h' id=some s:=by
 unfold Go.Am.sg at*;cases ho:get h id with
 | none=>rw[ho] at hg;cases hg
 | some o=>rw[ho] at hg;rw[hx.sm ho];exact hg
theorem HX.cur(hx:HX e h h'){id N:Nat}(hc:Acm h id N):Acm h' id N:=by
 unfold Acm at*;cases hs:Go.Am.sg h id with
 | none=>rw[hs] at hc;exact hc.elim
 | some s=>rw[hs] at hc;rw[hx.sg hs];exact hc
theorem HX.Cz(hx:HX e h h')(id:Nat)(o:AO):HX e (Cz h id o) (Cz h' id o):=by
 intro j;rw[CU,CU];by_cases ej:j=id
 . rw[if_pos ej,if_pos ej]
 . rw[if_neg ej,if_neg ej];exact hx j
theorem HX.cons(hx:HX e h h')(id:Nat)(o:AO):HX e ((id,o)::h) ((id,o)::h'):=by
 intro j;rw[Cw,Cw];by_cases ej:id=j
 . rw[if_pos ej,if_pos ej]
 . rw[if_neg ej,if_neg ej];exact hx j
theorem HX.froze(hx:HX e h h'){id:Nat}{o:AO}(hg:get h id=some o):HX e (froze h id) (froze h' id):=by
 unfold Go.Am.froze;rw[hg,hx.sm hg];cases o<;>first | exact hx.Cz _ _ | exact hx
theorem HX.refl(h:Hp):HX [] h h:=by
 intro id;cases get h id<;>rfl
theorem HX.one{q:Nat}{o:AO}(hq:get h q=none):HX [(q,o)] h ((q,o)::h):=by
 intro id;simp only[Cw];by_cases ej:q=id
 . subst ej;rw[hq];simp
 . rw[if_neg ej,if_neg ej];cases get h id<;>rfl
theorem Alp(hx:HX e h h'){t:TypeId}{d:D}{k:D->Prop}(hh:(Nf P h t d).all k):(Nf P h' t d).all k:=by
 unfold Nf at*;split at hh
 . split at hh
   . rename_i h2;simp only[hx.sm h2];exact hh
   . exact hh.elim
 . exact hh
 . split at hh
   . rename_i h2;simp only[hx.sm h2];exact hh
   . rename_i h2;simp only[hx.sm h2];exact hh
   . exact hh.elim
 . split at hh
   . rename_i h2;simp only[hx.sm h2];exact hh
   . exact hh.elim
 . exact hh.elim
theorem Wa(hx:HX e h h'){t:TypeId}{d:D}{f:Nat}{k:D->Prop}(hh:(G9 P t d f h).all k):(G9 P t d f h').all k:=by
 unfold G9 at*;split at hh
 . split at hh
   . split at hh
     . split at hh
       . exact hh
       . exact hh
       . exact ⟨⟨hh.1.1,hx.cur hh.1.2⟩,hh.2⟩
       . exact hh.elim
     . exact hh.elim
   . exact hh.elim
 . exact hh.elim
theorem VU(hx:HX e h h'){t:TypeId}{d i:D}{k:D->Prop}(hh:(G6 P t d i h).all k):(G6 P t d i h').all k:=by
 unfold G6 at*;split at hh
 . split at hh
   . split at hh
     . exact hh
     . exact hh
     . split at hh
       . rename_i h2;simp only[hx.sg h2];exact hh
       . exact hh.elim
     . exact hh
     . exact hh.elim
   . exact hh.elim
 . exact hh
 . exact hh.elim
theorem Adn(hx:HX e h h'){t:TypeId}{d:D}{k:D->Prop}(hh:(Abm P h t d).all k):(Abm P h' t d).all k:=by
 unfold Abm at*;split at hh
 . split at hh
   . exact hh
   . exact hh
   . exact hh
   . exact ⟨hx.cur hh.1,hh.2⟩
   . exact hh
   . exact hh
   . exact hh
   . exact hh.elim
 . exact hh.elim
theorem Aeu{env:List (Nat×D)}{n:Nat}(hx:HX e h h'){t:TypeId}{x:D}{lo hi mx:Option Operand}{k:D->Prop}(hh:(H2 P ⟨env,h,n⟩ t x lo hi mx).all k):(H2 P ⟨env,h',n⟩ t x lo hi mx).all k:=by
 unfold H2 at*;split at hh
 . exact hh
 . split at hh
   . split at hh
     . exact hh
     . split at hh
       . rename_i h2;simp only[hx.sg h2];exact hh
       . exact hh.elim
     . exact hh.elim
   . exact hh.elim
 . exact hh.elim
theorem Abk(hx:HX e h h'){t:TypeId}{x i:D}{ok:Bool}{k:D->Prop}(hh:(LQ P h t x i ok).all k):(LQ P h' t x i ok).all k:=by
 unfold LQ at*;split at hh
 . split at hh
   . rename_i h1;simp only[hx.sm h1];exact hh
   . exact hh.elim
 . exact hh.elim
theorem Afv(hx:HX e h h'){t:TypeId}{m i v:D}{k:Hp->Prop}(hh:(Kr P h t m i v).all k):(Kr P h' t m i v).all (λ y=>∃h1,HX e h1 y/\k h1):=by
 unfold Kr at*;split at hh
 . split at hh
   . rename_i h1;simp only[hx.sm h1];exact ⟨hh.1,_,hx.Cz _ _,hh.2⟩
   . exact hh.elim
 . exact hh.elim
theorem Ad2{env:List (Nat×D)}{n:Nat}(hx:HX e h h'){op:Op}{k:D->Prop}(hh:(Kj P ⟨env,h,n⟩ op).all k):(Kj P ⟨env,h',n⟩ op).all k:=by
 unfold Kj at*;cases op<;>simp only at hh ⊢<;>first
   | exact hh
   | exact Alp hx hh
   | exact Aeu hx hh
   | exact Wa hx hh
   | exact VU hx hh
   | exact Abk hx hh
   | skip
 . have ee:∀x,ev ⟨env,h',n⟩ x=ev ⟨env,h,n⟩ x:=λ _=>rfl;simp only[ee];split at hh
   . rename_i h1;exact hh
   . rename_i h1;exact hh
   . rename_i h1;exact ⟨hx.cur hh.1,hh.2⟩
   . exact hh.elim
 . rename_i fn _ _;cases fn<;>first
     | exact hh
     | exact hh.elim
theorem FG(hx:HX e h h'){d:D}{k:D×Hp->Prop}(hh:(Vk h d).all k):(Vk h' d).all (λ y=>∃h1,HX e h1 y.2/\k (y.1,h1)):=by
 unfold Vk at*;split at hh
 . split at hh
   . rename_i h1;simp only[hx.sm h1];exact ⟨hh.1,_,hx.froze h1,hh.2⟩
   . rename_i h1;simp only[hx.sm h1];exact ⟨hh.1,_,hx,hh.2⟩
   . exact hh.elim
 . split at hh
   . rename_i h1;simp only[hx.sm h1];exact ⟨hh.1,_,hx.Cz _ _,hh.2⟩
   . exact hh.elim
 . exact ⟨hh.1,_,hx,hh.2⟩
 . exact ⟨hh.1,_,hx,hh.2⟩
mutual
theorem Apl:∀{d:D} {h h':Hp} (_:HX e h h') {k:D×Hp->Prop} (_:(Db h d).all k),(Db h' d).all (λ y=>∃h1,HX e h1 y.2/\k (y.1,h1))
  | .agg cs,h,h',hx,k,hh=>by
    simp only[Db] at*;exact Ct (Ca (λ y hy=>by obtain ⟨h1,IM,h2⟩:=hy;exact ⟨h2.1,h1,IM,h2.2⟩) (Ol hx (Ce hh)))
  | .Dv cs,h,h',hx,k,hh=>by
    simp only[Db] at*;exact Ct (Ca (λ y hy=>by obtain ⟨h1,IM,h2⟩:=hy;exact ⟨h2.1,h1,IM,h2.2⟩) (Ol hx (Ce hh)))
  | .p _,h,h',hx,k,hh=>by simp only[Db] at*;exact FG hx hh
  | .cl _,h,h',hx,k,hh=>by simp only[Db] at*;exact FG hx hh
  | .cz _,h,h',hx,k,hh=>by simp only[Db] at*;exact FG hx hh
  | .ref _ _ _ _,h,h',hx,k,hh=>by simp only[Db] at*;exact FG hx hh
  | .ptr _ _,h,h',hx,k,hh=>by simp only[Db] at*;exact FG hx hh
  | .pe _,h,h',hx,k,hh=>by simp only[Db] at*;exact FG hx hh
  | .ea _ _ _ _,h,h',hx,k,hh=>by simp only[Db] at*;exact FG hx hh
  | .fn _ _,h,h',hx,k,hh=>by simp only[Db] at*;exact FG hx hh
  | .np,h,h',hx,k,hh=>by simp only[Db] at*;exact FG hx hh
  | .mv _,h,h',hx,k,hh=>by simp only[Db] at*;exact FG hx hh
  | .DI _ _,h,h',hx,k,hh=>by simp only[Db] at*;exact FG hx hh
  | .M9 _ _ _,h,h',hx,k,hh=>by simp only[Db] at*;exact FG hx hh
  | .nr _ _ _ _,h,h',hx,k,hh=>by simp only[Db] at*;exact FG hx hh
  | .SW,h,h',hx,k,hh=>by simp only[Db] at*;exact FG hx hh
  | .bad,h,h',hx,k,hh=>by simp only[Db] at*;exact FG hx hh
theorem Ol:∀{ds:List D} {h h':Hp} (_:HX e h h') {k:List D×Hp->Prop} (_:(GM h ds).all k),(GM h' ds).all (λ y=>∃h1,HX e h1 y.2/\k (y.1,h1))
  | [],h,h',hx,k,hh=>by simp only[GM] at*;exact ⟨hh.1,_,hx,hh.2⟩
  | d::r,h,h',hx,k,hh=>by
    simp only[GM] at*;refine Ct (Ca (λ y hy=>?_) (Apl hx (Ce hh)));obtain ⟨h1,IM,h2⟩:=hy;exact Ct (Ca (λ z hz=>by obtain ⟨h3,hx3,h4⟩:=hz;exact ⟨h4.1,h3,hx3,h4.2⟩) (Ol IM (Ce h2)))
end
theorem Ar3(hx:HX e h h'){d:D}{k:Pd×Hp->Prop}(hh:(VQ h d).all k):(VQ h' d).all (λ y=>∃h1,HX e h1 y.2/\k (y.1,h1)):=by
 unfold VQ at*;split at hh
 . exact ⟨hh.1,_,hx,hh.2⟩
 . exact ⟨hh.1,_,hx,hh.2⟩
 . exact ⟨hh.1,_,hx,hh.2⟩
 . split at hh
   . rename_i h1;simp only[hx.sm h1];exact ⟨hh.1,_,hx.froze h1,hh.2⟩
   . rename_i h1;simp only[hx.sm h1];exact ⟨hh.1,_,hx,hh.2⟩
   . exact hh.elim
 . split at hh
   . rename_i h1;simp only[hx.sm h1];exact ⟨hh.1,_,hx.Cz _ _,hh.2⟩
   . exact hh.elim
 . exact hh.elim
theorem T0:∀{ds:List D} {h h':Hp} (_:HX e h h') {k:List Pd×Hp->Prop} (_:(It h ds).all k),(It h' ds).all (λ y=>∃h1,HX e h1 y.2/\k (y.1,h1))
 | [],h,h',hx,k,hh=>by simp only[It] at*;exact ⟨hh.1,_,hx,hh.2⟩
 | d::r,h,h',hx,k,hh=>by
   simp only[It] at*;refine Ct (Ca (λ y hy=>?_) (Ar3 hx (Ce hh)));obtain ⟨h1,IM,h2⟩:=hy;exact Ct (Ca (λ z hz=>by obtain ⟨h3,hx3,h4⟩:=hz;exact ⟨h4.1,h3,hx3,h4.2⟩) (T0 IM (Ce h2)))
theorem Ad7(hx:HX e h h'){d:D}{k:List (List Pd)->Prop}(hh:(TD h d).all k):(TD h' d).all k:=by
 unfold TD at*;split at hh
 . exact hh
 . exact hh
 . exact hh
 . split at hh
   . rename_i h1;simp only[hx.sm h1];exact hh
   . rename_i h1;simp only[hx.sm h1];exact hh
   . exact hh.elim
 . exact hh.elim
theorem Asm(hx:HX e h h'){q:Nat}(hq:get e q=none){t t2:TypeId}{s x:D}{k:D×Hp->Prop}(hh:(Vo P h q t t2 s x).all k):(Vo P h' q t t2 s x).all (λ y=>∃h1,HX e h1 y.2/\k (y.1,h1)):=by
 unfold Vo at*;split at hh
 case h_2=>exact hh.elim
 split at hh
 case h_2=>exact hh.elim
 refine Ct (Ca (λ ys hy=>?_) (Ad7 hx (Ce hh)));split at hy
 . obtain ⟨⟨a1,a2,a3,a4,a5,a6⟩,hk⟩:=hy;exact ⟨⟨a1,a2,a3,a4,hx.nn a5 hq,a6⟩,_,hx.cons _ _,hk⟩
 . obtain ⟨⟨a1,a2,a3,a4,a5,a6⟩,hk⟩:=hy;exact ⟨⟨a1,a2,a3,a4,hx.nn a5 hq,a6⟩,_,hx.cons _ _,hk⟩
 . obtain ⟨h0,hy⟩:=O3 hy;refine Wq h0 ?_;split at hy
   . rename_i h1;simp only[hx.sm h1];exact ⟨hy.1,_,hx.Cz _ _,hy.2⟩
   . exact hy.elim
 . split at hy
   . rename_i h1;obtain ⟨⟨a1,a2,a3,a4,⟨b1,b2,b3,b4,b5,b6⟩,a5⟩,hk⟩:=hy;simp only[hx.sm h1];exact ⟨⟨a1,a2,a3,a4,⟨b1,b2,b3,b4,b5,hx.nn b6 hq⟩,a5⟩,_,(hx.Cz _ _).cons _ _,hk⟩
   . exact hy.elim
 . exact hy.elim
theorem Ap8(hx:HX e h h'){t:TypeId}{s x:D}{k:D×Hp->Prop}(hh:(NH P h t s x).all k):(NH P h' t s x).all (λ y=>∃h1,HX e h1 y.2/\k (y.1,h1)):=by
 unfold NH at*;split at hh
 case h_2=>exact hh.elim
 split at hh
 case h_2=>exact hh.elim
 refine Ct (Ca (λ ys hy=>?_) (Ad7 hx (Ce hh)));split at hy
 case h_2=>exact hy.elim
 split at hy
 case h_2=>exact hy.elim
 rename_i h1;simp only[hx.sm h1];exact ⟨hy.1,_,hx.Cz _ _,hy.2⟩
theorem X3(hx:HX e h h'){id i n:Nat}{v:D}{k:Hp->Prop}(hh:(FV h id i n v).all k):(FV h' id i n v).all (λ y=>∃h1,HX e h1 y/\k h1):=by
 unfold FV at*;split at hh
 . split at hh
   . rename_i h1 h2;simp only[hx.sm h1,hx.sm h2];exact ⟨hh.1,_,(hx.Cz _ _).Cz _ _,hh.2⟩
   . exact hh.elim
 . exact hh.elim
theorem Aes(hx:HX e h h'){t:TypeId}{a v:D}{k:Hp->Prop}(hh:(Kl P h t a v).all k):(Kl P h' t a v).all (λ y=>∃h1,HX e h1 y/\k h1):=by
 unfold Kl at*;split at hh
 case h_2=>exact hh.elim
 split at hh
 case h_2=>exact hh.elim
 split at hh
 . split at hh
   . rename_i h1;simp only[hx.sm h1];exact ⟨hh.1,_,hx.Cz _ _,hh.2⟩
   . exact hh.elim
 . refine Ct (Ca (λ y hy=>?_) (T0 hx (Ce hh)));obtain ⟨h1,IM,hy⟩:=hy;split at hy
   . rename_i h2;simp only[IM.sm h2];exact ⟨hy.1,_,IM.Cz _ _,hy.2⟩
   . exact hy.elim
 . exact JZ (Dx hh).1 (X3 hx (Dx hh).2)
 . exact hh.elim
end
end Go.Am
namespace Go.Am
open Go
section
variable {P:Program} {e h h':Hp}
theorem LO{env:List (Nat×D)}{n:Nat}(hx:HX e h h'){q:Nat}(hq:get e q=none){op:Op}{k:D×Hp->Prop}(hh:(LP P ⟨env,h,n⟩ q op).all k):
   (LP P ⟨env,h',n⟩ q op).all (λ y=>∃h1,HX e h1 y.2/\k (y.1,h1)):=by
 have ee:∀x,ev ⟨env,h',n⟩ x=ev ⟨env,h,n⟩ x:=λ _=>rfl;have ef:ev ⟨env,h',n⟩=ev ⟨env,h,n⟩:=funext ee;unfold LP at*;simp only[ee] at*;split at hh
 . split at hh
   . split at hh
     . exact ⟨hx.nn hh.1 hq,_,hx.cons _ _,hh.2⟩
     . exact hh.elim
   . exact hh.elim
 . split at hh
   . exact ⟨hx.nn hh.1 hq,_,hx.cons _ _,hh.2⟩
   . exact hh.elim
 . refine Ct (Ca (λ y hy=>?_) (Aes hx (Ce hh)));obtain ⟨h1,IM,hy⟩:=hy;exact ⟨hy.1,h1,IM,hy.2⟩
 . exact ⟨hx.nn hh.1 hq,_,hx.cons _ _,hh.2⟩
 . refine Ct (Ca (λ y hy=>?_) (Afv hx (Ce hh)));obtain ⟨h1,IM,hy⟩:=hy;exact ⟨hy.1,h1,IM,hy.2⟩
 . split at hh
   . split at hh
     . split at hh
       . split at hh
         . exact hh.elim
         rename_i hn;rw[if_neg hn];refine Ct (Ca (λ y hy=>?_) (T0 hx (Ce hh)));obtain ⟨h1,IM,hy⟩:=hy;exact ⟨⟨hy.1.1,hy.1.2.1,IM.nn hy.1.2.2 hq⟩,_,IM.cons _ _,hy.2⟩
       . exact hh.elim
     . exact hh.elim
   . exact hh.elim
 . split at hh
   . split at hh
     . split at hh
       . exact hh.elim
       rename_i hn;rw[if_neg hn];refine Ct (Ca (λ y hy=>?_) (Ce hh));exact ⟨⟨hy.1.1,hx.nn hy.1.2.1 hq,hy.1.2.2⟩,_,hx.cons _ _,hy.2⟩
     . exact hh.elim
   . exact hh.elim
 . exact hh.elim
theorem Aa7{env:List (Nat×D)}{n:Nat}(hx:HX e h h'){q:Nat}(hq:get e q=none){b:Builtin}{ts:Array TypeId}{args:List D}{k:D×Hp->Prop}(hh:(Fo P ⟨env,h,n⟩ q b ts args).all k):
   (Fo P ⟨env,h',n⟩ q b ts args).all (λ y=>∃h1,HX e h1 y.2/\k (y.1,h1)):=by
 unfold Fo at*;split at hh
 . split at hh
   . refine Ct (Ca (λ y hy=>?_) (Adn hx (Ce hh)));exact ⟨hy.1,_,hx,hy.2⟩
   . exact hh.elim
 . split at hh
   . exact Asm hx hq hh
   . exact hh.elim
 . split at hh
   . exact Ap8 hx hh
   . exact hh.elim
 . exact ⟨hh.1,_,hx,hh.2⟩
 . exact ⟨hh.1,_,hx,hh.2⟩
 . exact hh.elim
theorem Avs{env:List (Nat×D)}{n:Nat}(hx:HX e h h'){o:Oper}(hq:get e (o.dst.getD 0)=none){k:D×Hp->Prop}(hh:(Ky P ⟨env,h,n⟩ o).all k):
   (Ky P ⟨env,h',n⟩ o).all (λ y=>∃h1,HX e h1 y.2/\k (y.1,h1)):=by
 have val:∀{op:Op},((Kj P ⟨env,h,n⟩ op).bind λ d=> .ret True (d,h)).all k->((Kj P ⟨env,h',n⟩ op).bind λ d=> .ret True (d,h')).all (λ y=>∃h1,HX e h1 y.2/\k (y.1,h1)):=λ hv=>
   Ct (Ca (λ d hd=>⟨hd.1,_,hx,hd.2⟩) (Ad2 hx (Ce hv)))
 unfold Ky at*;split at hh
 . split at hh
   . exact Aa7 hx hq hh
   . exact hh.elim
 . rename_i h1;exact LO hx hq hh
 . exact LO hx hq hh
 . exact LO hx hq hh
 . exact LO hx hq hh
 . exact LO hx hq hh
 . exact LO hx hq hh
 . exact LO hx hq hh
 . exact val hh
theorem Ape{env:List (Nat×D)}{n:Nat}(hx:HX e h h'){f:Operand}{args:List Operand}{k:FuncId×List D×Hp->Prop}(hh:(Hs ⟨env,h,n⟩ f args).all k):
   (Hs ⟨env,h',n⟩ f args).all (λ y=>∃h1,HX e h1 y.2.2/\k (y.1,y.2.1,h1)):=by
 have ee:∀x,ev ⟨env,h',n⟩ x=ev ⟨env,h,n⟩ x:=λ _=>rfl;have ef:ev ⟨env,h',n⟩=ev ⟨env,h,n⟩:=funext ee;unfold Hs at*;rw[ef];split at hh
 . refine Ct (Ca (λ y hy=>?_) (Ol hx (Ce hh)));obtain ⟨h1,IM,hy⟩:=hy;exact ⟨hy.1,h1,IM,hy.2⟩
 . exact hh.elim
theorem Hc:∀(l T:List Nat) (id:Nat),id∈T->id∈FH T l
 | [],T,id,h=>h
 | i::r,T,id,h=>by
   simp only[FH];split
   . exact Hc r T id h
   . exact Hc r _ id (BL _ h)
theorem Uq(hx:HX e h h'):∀(l:List Nat),(∀id∈l,(get h id).isSome=true)->I2 h' l=I2 h l
 | [],_=>rfl
 | i::r,hp=>by
   obtain ⟨o,ho⟩:=Bt.1 (hp i (by simp));simp only[I2,ho,hx.sm ho,Uq hx r (λ id hi=>hp id (by simp[hi]))]
theorem QF(hx:HX e h h')(he:∀id,get e id≠none->id<10000){id:Nat}(hid:base<=id):ghost h' id=ghost h id:=by
 have:get h' id=get h id:=by
   rw[hx];cases hg:get h id with
   | some o=>rfl
   | none=>
     cases he2:get e id with
     | none=>rfl
     | some o=>have:=he id (by rw[he2];simp);unfold base at hid;omega
 simp only[ghost,this]
theorem Agj(hx:HX e h h')(he:∀id,get e id≠none->id<10000):RR h'=RR h:=by
 simp only[RR,QF hx he (Ai base),QF hx he (Nat.le_add_right base 1),QF hx he (Nat.le_add_right base 2),QF hx he (Nat.le_add_right base 3)]
theorem Xy(hx:HX e h h')(he:∀id,get e id≠none->id<10000)(ids:List Nat)(hp:∀id∈DY h ids,(get h id).isSome=true):DY h' ids=DY h ids:=by
 unfold DY at*;simp only at hp ⊢;have h0:I2 h' (FH [] ids)=I2 h (FH [] ids):=Uq hx _ λ id hi=>hp id (Hc _ _ _ (Hc _ _ _ (Hc _ _ _ hi)));rw[h0];have h1:I2 h' (FH (FH [] ids) (I2 h (FH [] ids)))=I2 h (FH (FH [] ids) (I2 h (FH [] ids))):=Uq hx _ λ id hi=>hp id (Hc _ _ _ (Hc _ _ _ hi));rw[h1,Agj hx he]
theorem Aap(hx:HX e h h')(ρ:Nat->Option Nat):∀(T:List Nat) (k:Nat),(∀id∈T,(get h id).isSome=true)->sub h' ρ k T=sub h ρ k T
 | [],_,_=>rfl
 | i::r,k,hp=>by
   obtain ⟨o,ho⟩:=Bt.1 (hp i (by simp));simp only[sub,ho,hx.sm ho,Aap hx ρ r (k+1) (λ id hi=>hp id (by simp[hi]))]
theorem l7(hx:HX e h h'){q:Nat}(hq:∀j,get e (10000*(j+1)+q)=none):∀(l:Hp),fresh q h l->fresh q h' l
 | [],_=>trivial
 | (j,_)::r,hf=>⟨hf.1.imp id λ h1=>hx.nn h1 (hq j),l7 hx hq r hf.2⟩
theorem Qk(hx:HX e h h')(T:List Nat)(q:Nat):∀(l:Hp),HX e (merge T q h l) (merge T q h' l)
 | []=>hx
 | (j,o)::r=>by
   simp only[merge];split
   . exact (Qk hx T q r).Cz _ _
   . exact Qk hx T q r
theorem Apg(hx:HX e h h'){f:FuncId}{ds:List D}{q:Nat}(he:∀id,get e id≠none->id<10000)(hq:∀j,get e (10000*(j+1)+q)=none){k:D->Hp->Prop}(hh:HV P h f ds q k):
   HV P h' f ds q (λ d y=>∃h1,HX e h1 y/\k d h1):=by
 unfold HV at*;obtain ⟨h1,h2,h3⟩:=hh;have hp:∀id∈DY h (DB ds),(get h id).isSome=true:=λ id hi=>AB.1 h2 id hi;rw[Xy hx he _ hp];refine ⟨h1,AB.2 λ id hi=>?_,?_⟩
 . obtain ⟨o,ho⟩:=Bt.1 (hp id hi);rw[hx.sm ho];rfl
 . rw[Aap hx _ _ _ hp];exact h3.mono λ h2 r ⟨hf,hk⟩=>⟨l7 hx hq h2 hf,_,Qk hx _ _ _,hk⟩
theorem DT{α:Type}{S:Prop}{k:α->Prop}:∀{r:Rs α},r.all k->r.JY S k
 | .fail,h=>h.elim
 | .ret p a,h=>h
 | .split b x y,h=>⟨λ e=>DT (h.1 e),λ e=>DT (h.2 e)⟩
theorem PL{f:FuncId}{ds:List D}{q:Nat}{k k':D->Hp->Prop}(hk:∀d y,k d y->k' d y)(hh:HV P h f ds q k):HV P h f ds q k':=by
 unfold HV at*;exact ⟨hh.1,hh.2.1,hh.2.2.mono λ h2 r ⟨hf,h3⟩=>⟨hf,hk _ _ h3⟩⟩
theorem Aua{env:List (Nat×D)}{n:Nat}(hx:HX e h h'){o:Oper}(hq:∀id,get e id≠none->id<10000)(hd:get e (o.dst.getD 0)=none){K:St->Prop}(hh:Rd P false o K ⟨env,h,n⟩):
   Rd P false o (λ st=>∃h1,HX e h1 st.hp/\K {st with hp:=h1}) ⟨env,h',n⟩:=by
 have Nl:∀j,get e (10000*(j+1)+o.dst.getD 0)=none:=λ j=>by
   cases hg:get e (10000*(j+1)+o.dst.getD 0) with
   | none=>rfl
   | some x=>have:=hq _ (by rw[hg];simp);omega
 have key:∀(y h2:Hp) (d:D),K ((⟨env,h2,n⟩:St).put o.dst d)->K {(⟨env,y,n⟩:St).put o.dst d with hp:=h2}:=by
   intro y h2 d hk;generalize o.dst=dst at hk ⊢;cases dst with
   | none=>exact hk
   | some t=>
     simp only[St.put] at hk ⊢;split
     . rename_i ht;rw[if_pos ht] at hk;exact hk
     . rename_i ht;rw[if_neg ht] at hk;exact hk
 have Atl:∀(st:St) (t:Option Nat) (d:D),(st.put t d).hp=st.hp:=by
   intro st t d;cases t with
   | none=>rfl
   | some t=>simp only[St.put];split<;>rfl
 unfold Rd at*;split at hh
 . rename_i f args ho;rcases D8 hh with hh | hh
   case inr=>exact (AJ hh.1).elim
   simp only[L5] at hh ⊢;refine DT (Ca (λ x HT=>?_) (Ape hx hh));obtain ⟨h1,IM,hc⟩:=HT;have:=Apg IM hq Nl hc;refine PL (λ d y hy=>?_) this;obtain ⟨h2,HT,hk⟩:=hy;exact ⟨h2,by rw[Atl];exact HT,key _ _ _ hk⟩
 . rcases D8 hh with hh | hh
   case inr=>exact (AJ hh.1).elim
   refine DT (Ca (λ x HT=>?_) (Avs hx hd hh));obtain ⟨h1,IM,hk⟩:=HT;exact ⟨h1,by rw[Atl];exact IM,key _ _ _ hk⟩
end
end Go.Am
namespace Go.Am
open Go
def GN(h:Hp)(d:D):Prop:=∀id∈d.ids,get h id≠none
def GJ(h:Hp)(ds:List D):Prop:=∀id∈DB ds,get h id≠none
def I1(h:Hp):Prop:=∀id o,get h id=some o->∀i∈o.ids,get h i≠none
def Ms(h h':Hp):Prop:=∀id,get h id≠none->get h' id≠none
def E9(q:Option Nat)(h h':Hp):Prop:=∀id,get h' id≠none->get h id≠none∨some id=q∨10000<=id
section
variable {P:Program} {e h h':Hp} {q:Option Nat}
theorem HX.eq(hx:HX e h h'){id:Nat}(hg:get h id≠none):get h' id=get h id:=by
 cases ho:get h id with
 | none=>exact (hg ho).elim
 | some o=>exact hx.sm ho
theorem HX.nn'(hx:HX e h h'){id:Nat}(hg:get h' id=none):get h id=none:=by
 cases ho:get h id with
 | none=>rfl
 | some o=>rw[hx.sm ho] at hg;cases hg
theorem E9.refl(q:Option Nat)(h:Hp):E9 q h h:=λ _ hi=> .inl hi
theorem E9.trans{h'':Hp}(h1:E9 q h h')(h2:E9 q h' h''):E9 q h h'':=λ id hi=>by
 rcases h2 id hi with h3 | h3
 . exact h1 id h3
 . exact .inr h3
theorem Ms.refl(h:Hp):Ms h h:=λ _ hi=>hi
theorem Ms.trans{h'':Hp}(h1:Ms h h')(h2:Ms h' h''):Ms h h'':=λ id hi=>h2 id (h1 id hi)
theorem E9.Cz{id:Nat}(hg:get h id≠none)(o:AO):E9 q h (Cz h id o):=by
 intro j hj;rw[CU] at hj;by_cases ej:j=id
 . subst ej;exact .inl hg
 . rw[if_neg ej] at hj;exact .inl hj
theorem Ms.Cz(h:Hp)(id:Nat)(o:AO):Ms h (Cz h id o):=by
 intro j hj;rw[CU];by_cases ej:j=id
 . rw[if_pos ej];simp
 . rw[if_neg ej];exact hj
theorem W5{h:Hp}{id:Nat}(j:Nat):get (froze h id) j=match get h j with
   | some (.arr t sz es)=>if j=id then some (.Nw sz es) else some (.arr t sz es)
   | o=>o:=by
 unfold froze;split
 . rename_i t sz es hg;rw[CU];by_cases ej:j=id
   . subst ej;rw[if_pos rfl,hg];simp
   . rw[if_neg ej];cases get h j with
     | none=>rfl
     | some o=>cases o<;>simp[ej]
 . rename_i hg;cases hj:get h j with
   | none=>rfl
   | some o=>cases o with
     | arr t sz es=>
       by_cases ej:j=id
       . subst ej;exact (hg _ _ _ hj).elim
       . simp[ej]
     | _=>rfl
theorem Py{h:Hp}{id j:Nat}:get (froze h id) j≠none↔get h j≠none:=by
 rw[W5];cases get h j with
 | none=>simp
 | some o=>cases o<;>simp<;>split<;>simp
theorem I1.froze(hn:I1 h)(id:Nat):I1 (froze h id):=by
 intro j o hj i hi;rw[Py];rw[W5] at hj;cases hg:get h j with
 | none=>rw[hg] at hj;cases hj
 | some o2=>
   rw[hg] at hj;cases o2 with
   | arr t sz es=>
     simp only at hj;split at hj<;>(cases hj;simp[AO.ids] at hi)
   | Nw sz es=>cases hj;simp[AO.ids] at hi
   | iter l pos=>cases hj;simp[AO.ids] at hi
   | Gi g cs=>cases hj;simp[AO.ids] at hi
   | Fv s=>cases hj;simp[AO.ids] at hi
   | mp l=>cases hj;simp[AO.ids] at hi
   | DF t e sz k rows hole=>cases hj;simp[AO.ids] at hi
   | box cs ty=>cases hj;exact hn j _ hg i hi
def EZ(h h':Hp):Prop:=∀id,get h' id≠none↔get h id≠none
theorem EZ.refl(h:Hp):EZ h h:=λ _=>Iff.rfl
theorem EZ.trans{h'':Hp}(h1:EZ h h')(h2:EZ h' h''):EZ h h'':=λ id=>(h2 id).trans (h1 id)
theorem EZ.Aum(hk:EZ h h'){d:D}:GN h' d↔GN h d:=⟨λ hp id hi=>(hk id).1 (hp id hi),λ hp id hi=>(hk id).2 (hp id hi)⟩
theorem EZ.Adf(hk:EZ h h'){d:List D}:GJ h' d↔GJ h d:=⟨λ hp id hi=>(hk id).1 (hp id hi),λ hp id hi=>(hk id).2 (hp id hi)⟩
theorem I1.Cz(hn:I1 h){id:Nat}(hg:get h id≠none){o:AO}(ho:o.ids=[]):I1 (Cz h id o):=by
 intro j o2 hj i hi;rw[CU] at hj;by_cases ej:j=id
 . rw[if_pos ej] at hj;cases hj;rw[ho] at hi;cases hi
 . rw[if_neg ej] at hj;exact Ms.Cz h id o i (hn j o2 hj i hi)
theorem EZ.Cz{id:Nat}(hg:get h id≠none)(o:AO):EZ h (Cz h id o):=by
 intro j;rw[CU];by_cases ej:j=id
 . subst ej;rw[if_pos rfl];exact ⟨λ _=>hg,λ _=>by simp⟩
 . rw[if_neg ej]
theorem Alo(hx:HX e h h'){t:TypeId}{d:D}(hd:GN h d):Nf P h' t d=Nf P h t d:=by
 unfold Nf;cases CJ P t with
 | none=>rfl
 | some ti=>cases d with
   | ptr id off=>simp only[hx.eq (hd id (by simp[D.ids]))]
   | ea id i c N=>simp only[hx.eq (hd id (by simp[D.ids]))]
   | M9 id i n=>simp only[hx.eq (hd id (by simp[D.ids]))]
   | _=>rfl
theorem FF(hx:HX e h h')(hn:I1 h){d:D}(hd:GN h d){k:D×Hp->Prop}(hh:(Vk h' d).all k):
   (Vk h d).all (λ y=>(∃EN,HX e y.2 EN/\k (y.1,EN))/\GN h y.1/\I1 y.2/\EZ h y.2):=by
 have pl:∀x:Pd,GN h (.p x):=λ x id hi=>by simp[D.ids] at hi
 unfold Vk at*;split at hh
 . rename_i id off len N;rw[hx.eq (hd id (by simp[D.ids]))] at hh;split at hh
   . rename_i h1;exact ⟨hh.1,⟨_,hx.froze h1,hh.2⟩,pl _,hn.froze id,λ j=>Py⟩
   . exact ⟨hh.1,⟨_,hx,hh.2⟩,pl _,hn,EZ.refl _⟩
   . exact hh.elim
 . rename_i id n;have hid:=hd id (by simp[D.ids]);rw[hx.eq hid] at hh;split at hh
   . exact ⟨hh.1,⟨_,hx.Cz _ _,hh.2⟩,pl _,hn.Cz hid rfl,EZ.Cz hid _⟩
   . exact hh.elim
 . exact ⟨hh.1,⟨_,hx,hh.2⟩,pl _,hn,EZ.refl _⟩
 . exact ⟨hh.1,⟨_,hx,hh.2⟩,hd,hn,EZ.refl _⟩
theorem GJ.cons{d:D}{r:List D}:GJ h (d::r)↔GN h d/\GJ h r:=by
 unfold GJ GN;simp only[DB,Aw];exact ⟨λ hh=>⟨λ id hi=>hh id (.inl hi),λ id hi=>hh id (.inr hi)⟩,λ hh id hi=>hi.elim (hh.1 id) (hh.2 id)⟩
theorem GN.le{h2:Hp}(hk:Ms h h2){d:D}(hd:GN h d):GN h2 d:=λ id hi=>hk id (hd id hi)
theorem GJ.le{h2:Hp}(hk:Ms h h2){d:List D}(hd:GJ h d):GJ h2 d:=λ id hi=>hk id (hd id hi)
mutual
theorem Apk:∀{d:D} {h h':Hp} (_:HX e h h') (_:I1 h) (_:GN h d) {k:D×Hp->Prop} (_:(Db h' d).all k),
    (Db h d).all (λ y=>(∃EN,HX e y.2 EN/\k (y.1,EN))/\GN h y.1/\I1 y.2/\EZ h y.2)
  | .agg cs,h,h',hx,hn,hd,k,hh=>by
    simp only[Db] at*;refine Ct (Ca (λ y hy=>?_) (Ok hx hn (ds:=cs) hd (Ce hh)));obtain ⟨⟨h1,IM,h2⟩,h3,h4⟩:=hy;exact ⟨h2.1,⟨h1,IM,h2.2⟩,h3,h4⟩
  | .Dv cs,h,h',hx,hn,hd,k,hh=>by
    simp only[Db] at*;refine Ct (Ca (λ y hy=>?_) (Ok hx hn (ds:=cs) hd (Ce hh)));obtain ⟨⟨h1,IM,h2⟩,h3,h4⟩:=hy;exact ⟨h2.1,⟨h1,IM,h2.2⟩,h3,h4⟩
  | .p _,h,h',hx,hn,hd,k,hh=>by simp only[Db] at*;exact FF hx hn hd hh
  | .cl _,h,h',hx,hn,hd,k,hh=>by simp only[Db] at*;exact FF hx hn hd hh
  | .cz _,h,h',hx,hn,hd,k,hh=>by simp only[Db] at*;exact FF hx hn hd hh
  | .ref _ _ _ _,h,h',hx,hn,hd,k,hh=>by simp only[Db] at*;exact FF hx hn hd hh
  | .ptr _ _,h,h',hx,hn,hd,k,hh=>by simp only[Db] at*;exact FF hx hn hd hh
  | .pe _,h,h',hx,hn,hd,k,hh=>by simp only[Db] at*;exact FF hx hn hd hh
  | .ea _ _ _ _,h,h',hx,hn,hd,k,hh=>by simp only[Db] at*;exact FF hx hn hd hh
  | .fn _ _,h,h',hx,hn,hd,k,hh=>by simp only[Db] at*;exact FF hx hn hd hh
  | .np,h,h',hx,hn,hd,k,hh=>by simp only[Db] at*;exact FF hx hn hd hh
  | .mv _,h,h',hx,hn,hd,k,hh=>by simp only[Db] at*;exact FF hx hn hd hh
  | .DI _ _,h,h',hx,hn,hd,k,hh=>by simp only[Db] at*;exact FF hx hn hd hh
  | .M9 _ _ _,h,h',hx,hn,hd,k,hh=>by simp only[Db] at*;exact FF hx hn hd hh
  | .nr _ _ _ _,h,h',hx,hn,hd,k,hh=>by simp only[Db] at*;exact FF hx hn hd hh
  | .SW,h,h',hx,hn,hd,k,hh=>by simp only[Db] at*;exact FF hx hn hd hh
  | .bad,h,h',hx,hn,hd,k,hh=>by simp only[Db] at*;exact FF hx hn hd hh
theorem Ok:∀{ds:List D} {h h':Hp} (_:HX e h h') (_:I1 h) (_:GJ h ds) {k:List D×Hp->Prop} (_:(GM h' ds).all k),
    (GM h ds).all (λ y=>(∃EN,HX e y.2 EN/\k (y.1,EN))/\GJ h y.1/\I1 y.2/\EZ h y.2)
  | [],h,h',hx,hn,hd,k,hh=>by simp only[GM] at*;exact ⟨hh.1,⟨_,hx,hh.2⟩,hd,hn,EZ.refl _⟩
  | d::r,h,h',hx,hn,hd,k,hh=>by
    simp only[GM] at*;obtain ⟨OD,I4⟩:=GJ.cons.1 hd;refine Ct (Ca (λ y hy=>?_) (Apk hx hn OD (Ce hh)));obtain ⟨⟨h1,IM,h2⟩,hp1,Yk,Pn⟩:=hy;refine Ct (Ca (λ z hz=>?_) (Ok IM Yk (Pn.Adf.2 I4) (Ce h2)));obtain ⟨⟨h3,hx3,h4⟩,KF,hn2,IF⟩:=hz;exact ⟨h4.1,⟨h3,hx3,h4.2⟩,GJ.cons.2 ⟨hp1,Pn.Adf.1 KF⟩,hn2,Pn.trans IF⟩
end
theorem Ar2(hx:HX e h h')(hn:I1 h){d:D}(hd:GN h d){k:Pd×Hp->Prop}(hh:(VQ h' d).all k):
   (VQ h d).all (λ y=>(∃EN,HX e y.2 EN/\k (y.1,EN))/\I1 y.2/\EZ h y.2):=by
 unfold VQ at*;split at hh
 . exact ⟨hh.1,⟨_,hx,hh.2⟩,hn,EZ.refl _⟩
 . exact ⟨hh.1,⟨_,hx,hh.2⟩,hn,EZ.refl _⟩
 . exact ⟨hh.1,⟨_,hx,hh.2⟩,hn,EZ.refl _⟩
 . rename_i id off len N;rw[hx.eq (hd id (by simp[D.ids]))] at hh;split at hh
   . rename_i h1;exact ⟨hh.1,⟨_,hx.froze h1,hh.2⟩,hn.froze id,λ j=>Py⟩
   . exact ⟨hh.1,⟨_,hx,hh.2⟩,hn,EZ.refl _⟩
   . exact hh.elim
 . rename_i id n;have hid:=hd id (by simp[D.ids]);rw[hx.eq hid] at hh;split at hh
   . exact ⟨hh.1,⟨_,hx.Cz _ _,hh.2⟩,hn.Cz hid rfl,EZ.Cz hid _⟩
   . exact hh.elim
 . exact hh.elim
theorem TZ:∀{ds:List D} {h h':Hp} (_:HX e h h') (_:I1 h) (_:GJ h ds) {k:List Pd×Hp->Prop} (_:(It h' ds).all k),
   (It h ds).all (λ y=>(∃EN,HX e y.2 EN/\k (y.1,EN))/\I1 y.2/\EZ h y.2)
 | [],h,h',hx,hn,hd,k,hh=>by simp only[It] at*;exact ⟨hh.1,⟨_,hx,hh.2⟩,hn,EZ.refl _⟩
 | d::r,h,h',hx,hn,hd,k,hh=>by
   simp only[It] at*;obtain ⟨OD,I4⟩:=GJ.cons.1 hd;refine Ct (Ca (λ y hy=>?_) (Ar2 hx hn OD (Ce hh)));obtain ⟨⟨h1,IM,h2⟩,Yk,Pn⟩:=hy;refine Ct (Ca (λ z hz=>?_) (TZ IM Yk (Pn.Adf.2 I4) (Ce h2)));obtain ⟨⟨h3,hx3,h4⟩,hn2,IF⟩:=hz;exact ⟨h4.1,⟨h3,hx3,h4.2⟩,hn2,Pn.trans IF⟩
theorem Ad6(hx:HX e h h'){d:D}(hd:GN h d):TD h' d=TD h d:=by
 unfold TD;split
 . rfl
 . rfl
 . rfl
 . rename_i id off len N;rw[hx.eq (hd id (by simp[D.ids]))]
 . rfl
def Beh(e h:Hp)(q:Option Nat)(k:D×Hp->Prop)(y:D×Hp):Prop:=(∃EN,HX e y.2 EN/\k (y.1,EN))/\E9 q h y.2
theorem Asl(hx:HX e h h'){q:Nat}{t t2:TypeId}{s x:D}(hs:GN h s)(hd:GN h x){k:D×Hp->Prop}(hh:(Vo P h' q t t2 s x).all k):(Vo P h q t t2 s x).all (Beh e h (some q) k):=by
 unfold Vo at*;split at hh
 case h_2=>exact hh.elim
 split at hh
 case h_2=>exact hh.elim
 rw[Ad6 hx hd] at hh;refine Ct (Ca (λ ys hy=>?_) (Ce hh));split at hy
 . obtain ⟨⟨a1,a2,a3,a4,a5,a6⟩,hk⟩:=hy;refine ⟨⟨a1,a2,a3,a4,hx.nn' a5,a6⟩,⟨_,hx.cons _ _,hk⟩,λ j hj=>?_⟩;rw[Cw] at hj;split at hj
   . rename_i ej;exact .inr (.inl (by rw[ej]))
   . exact .inl hj
 . obtain ⟨⟨a1,a2,a3,a4,a5,a6⟩,hk⟩:=hy;refine ⟨⟨a1,a2,a3,a4,hx.nn' a5,a6⟩,⟨_,hx.cons _ _,hk⟩,λ j hj=>?_⟩;rw[Cw] at hj;split at hj
   . rename_i ej;exact .inr (.inl (by rw[ej]))
   . exact .inl hj
 . rename_i id off len N;have hid:=hs id (by simp[D.ids]);rw[hx.eq hid] at hy;obtain ⟨h0,hy⟩:=O3 hy;refine Wq h0 ?_;split at hy
   . exact ⟨hy.1,⟨_,hx.Cz _ _,hy.2⟩,E9.Cz hid _⟩
   . exact hy.elim
 . rename_i id i len kk;have hid:=hs id (by simp[D.ids]);rw[hx.eq hid] at hy;split at hy
   . obtain ⟨⟨a1,a2,a3,a4,⟨b1,b2,b3,b4,b5,b6⟩,a5⟩,hk⟩:=hy;refine ⟨⟨a1,a2,a3,a4,⟨b1,b2,b3,b4,b5,hx.nn' b6⟩,a5⟩,⟨_,(hx.Cz _ _).cons _ _,hk⟩,λ j hj=>?_⟩;rw[Cw] at hj;split at hj
     . rename_i ej;exact .inr (.inl (by rw[ej]))
     . exact E9.Cz hid _ j hj
   . exact hy.elim
 . exact hy.elim
theorem Ap7(hx:HX e h h'){q:Nat}{t:TypeId}{s x:D}(hs:GN h s)(hd:GN h x){k:D×Hp->Prop}(hh:(NH P h' t s x).all k):(NH P h t s x).all (Beh e h (some q) k):=by
 unfold NH at*;split at hh
 case h_2=>exact hh.elim
 split at hh
 case h_2=>exact hh.elim
 rw[Ad6 hx hd] at hh;refine Ct (Ca (λ ys hy=>?_) (Ce hh));split at hy
 case h_2=>exact hy.elim
 rename_i id off len N;have hid:=hs id (by simp[D.ids]);rw[hx.eq hid] at hy;split at hy
 . exact ⟨hy.1,⟨_,hx.Cz _ _,hy.2⟩,E9.Cz hid _⟩
 . exact hy.elim
theorem Sy(a b:List D):DB (a++b)=DB a++DB b:=by
 induction a with
 | nil=>rfl
 | cons d r ih=>simp[DB,ih]
theorem Aar{d:D}{cs:List D}(hs:d.stored=some cs):DB cs=d.ids:=by
 unfold D.stored at hs;split at hs
 . cases hs;cases d<;>simp[D.cells,D.ids,DB]
 . cases hs
theorem Afu(hx:HX e h h'){t:TypeId}{m i v:D}(hm:GN h m){k:Hp->Prop}(hh:(Kr P h' t m i v).all k):
   (Kr P h t m i v).all (λ y=>(∃EN,HX e y EN/\k EN)/\E9 none h y):=by
 unfold Kr at*;split at hh
 . rename_i id key x h0;have hid:=hm id (by simp[D.ids]);rw[hx.eq hid] at hh;split at hh
   . exact ⟨hh.1,⟨_,hx.Cz _ _,hh.2⟩,E9.Cz hid _⟩
   . exact hh.elim
 . exact hh.elim
theorem X2(hx:HX e h h'){id i n:Nat}{v:D}(ha:get h id≠none)(hv:GN h v){k:Hp->Prop}(hh:(FV h' id i n v).all k):
   (FV h id i n v).all (λ y=>(∃EN,HX e y EN/\k EN)/\E9 none h y):=by
 unfold FV at*;split at hh
 . rename_i q off len N;have hq:=hv q (by simp[D.ids]);rw[hx.eq hq,hx.eq ha] at hh;split at hh
   . refine ⟨hh.1,⟨_,(hx.Cz _ _).Cz _ _,hh.2⟩,(E9.Cz ha _).trans (E9.Cz (Ms.Cz _ _ _ _ hq) _)⟩
   . exact hh.elim
 . exact hh.elim
theorem Aer(hx:HX e h h')(hn:I1 h){t:TypeId}{a v:D}(ha:GN h a)(hv:GN h v){k:Hp->Prop}(hh:(Kl P h' t a v).all k):
   (Kl P h t a v).all (λ y=>(∃EN,HX e y EN/\k EN)/\E9 none h y):=by
 unfold Kl at*;split at hh
 case h_2=>exact hh.elim
 split at hh
 case h_2=>exact hh.elim
 rename_i Mm;split at hh
 . rename_i id off;have hid:=ha id (by simp[D.ids]);rw[hx.eq hid] at hh;split at hh
   . exact ⟨hh.1,⟨_,hx.Cz _ _,hh.2⟩,E9.Cz hid _⟩
   . exact hh.elim
 . rename_i id i c N;have hid:=ha id (by simp[D.ids]);refine Ct (Ca (λ y hy=>?_) (TZ hx hn (λ j hj=>hv j (by rw[<-Aar Mm];exact hj)) (Ce hh)));obtain ⟨⟨h1,IM,hy⟩,Yk,Pn⟩:=hy;have Ayb:=(Pn id).2 hid;rw[IM.eq Ayb] at hy;split at hy
   . exact ⟨hy.1,⟨_,IM.Cz _ _,hy.2⟩,λ j hj=>by
       rcases E9.Cz (q:=none) Ayb _ j hj with h3 | h3 | h3
       . exact .inl ((Pn j).1 h3)
       . cases h3
       . exact .inr (.inr h3)⟩
   . exact hy.elim
 . rename_i id i n;have hid:=ha id (by simp[D.ids]);exact JZ (Dx hh).1 (X2 hx hid hv (Dx hh).2)
 . exact hh.elim
end
end Go.Am
namespace Go.Am
open Go
def isQ(o:Op):Bool:=
 match o with
 | .call c=>match c.callee with
   | .value _=>true
   | .builtin .append | .builtin .copy=>true
   | _=>false
 | .store _ _ _=>true
 | .slice _ _ _ _ _=>true
 | .buildSlice _ _ _=>true
 | .load _ _=>true
 | .mapUpdate _ _ _ _=>true
 | _=>false
section
variable {P:Program} {e h h':Hp}
theorem Ic:∀(l T:List Nat) (id:Nat),id∈FH T l->id∈T∨id∈l
 | [],T,id,hi=> .inl hi
 | i::r,T,id,hi=>by
   simp only[FH] at hi;split at hi
   . rcases Ic r T id hi with h1 | h1
     . exact .inl h1
     . exact .inr (by simp[h1])
   . rcases Ic r _ id hi with h1 | h1
     . rcases Aw.1 h1 with h2 | h2
       . exact .inl h2
       . simp only[Ay] at h2;exact .inr (by simp[h2])
     . exact .inr (by simp[h1])
theorem Pl(hn:I1 h):∀(l:List Nat) (id:Nat),id∈I2 h l->get h id≠none
 | [],id,hi=>by simp[I2] at hi
 | i::r,id,hi=>by
   simp only[I2,Aw] at hi;rcases hi with h1 | h1
   . cases ho:get h i with
     | none=>rw[ho] at h1;simp at h1
     | some o=>rw[ho] at h1;exact hn i o ho id h1
   . exact Pl hn r id h1
theorem Aa0(hn:I1 h){ids:List Nat}(hp:∀id∈ids,get h id≠none):∀id∈DY h ids,get h id≠none:=by
 intro id hi;unfold DY at hi;simp only at hi;rcases Ic _ _ _ hi with h0 | h0
 . rcases Ic _ _ _ h0 with h1 | h1
   . rcases Ic _ _ _ h1 with h2 | h2
     . rcases Ic _ _ _ h2 with h3 | h3
       . simp at h3
       . exact hp id h3
     . exact Pl hn _ _ h2
   . exact Pl hn _ _ h1
 . have hg:∀j,id∈ghost h j->get h id≠none:=by
     intro j hj;unfold ghost at hj;split at hj
     . rename_i hgj;simp only[Ay] at hj;subst hj;rw[hgj];simp
     . simp at hj
   simp only[RR,Aw] at h0;rcases h0 with h0 | h0 | h0 | h0<;>exact hg _ h0
theorem l6(hx:HX e h h'){q:Nat}:∀(l:Hp),fresh q h' l->fresh q h l
 | [],_=>trivial
 | (j,_)::r,hf=>⟨hf.1.imp id λ h1=>hx.nn' h1,l6 hx r hf.2⟩
theorem Apf(hx:HX e h h')(he:∀id,get e id≠none->id<10000)(hn:I1 h){f:FuncId}{ds:List D}(hd:GJ h ds){q:Nat}{k:D->Hp->Prop}(hh:HV P h' f ds q k):
   HV P h f ds q (λ d y=>(∃EN,HX e y EN/\k d EN)/\E9 none h y):=by
 have hp:=Aa0 hn hd;have hs:∀id∈DY h (DB ds),(get h id).isSome=true:=λ id hi=>by
   have:=hp id hi;cases hg:get h id with
   | none=>exact (this hg).elim
   | some o=>rfl
 unfold HV at*;rw[Xy hx he _ hs] at hh;obtain ⟨h1,h2,h3⟩:=hh;refine ⟨h1,AB.2 hs,?_⟩;rw[Aap hx _ _ _ hs] at h3;refine h3.mono λ h2 r ⟨hf,hk⟩=>⟨l6 hx h2 hf,⟨_,Qk hx _ _ _,hk⟩,?_⟩;intro i hi;have key:∀(l:Hp),get (merge (DY h (DB ds)) q h l) i≠none->get h i≠none∨some i=none∨10000<=i:=by
   intro l
   induction l with
   | nil=>intro h4;exact .inl h4
   | cons x r ih=>
     obtain ⟨j,o⟩:=x;intro h4;simp only[merge] at h4;split at h4
     . rename_i id hid;rw[CU] at h4;by_cases ej:i=id
       . subst ej;unfold back at hid;split at hid
         . exact .inl (hp i (AQ hid))
         . simp only[Al] at hid;exact .inr (.inr (by omega))
       . rw[if_neg ej] at h4;exact ih h4
     . exact ih h4
 exact key h2 hi
theorem Apd{env:List (Nat×D)}{n:Nat}(hx:HX e h h')(hn:I1 h){f:Operand}{args:List Operand}(hf:GN h (ev ⟨env,h,n⟩ f))(ha:∀x∈args,GN h (ev ⟨env,h,n⟩ x))
   {k:FuncId×List D×Hp->Prop} (hh:(Hs ⟨env,h',n⟩ f args).all k):
   (Hs ⟨env,h,n⟩ f args).all (λ y=>(∃EN,HX e y.2.2 EN/\k (y.1,y.2.1,EN))/\GJ y.2.2 y.2.1/\I1 y.2.2/\EZ h y.2.2):=by
 have ef:ev ⟨env,h',n⟩=ev ⟨env,h,n⟩:=funext λ _=>rfl;unfold Hs at*;rw[ef] at hh;have I5:GJ h (args.map (ev ⟨env,h,n⟩)):=by
   intro id hi;clear hh
   induction args with
   | nil=>simp[DB] at hi
   | cons x r ih=>
     simp only[AH,DB,Aw] at hi;rcases hi with h1 | h1
     . exact ha x (by simp) id h1
     . exact ih (λ y hy=>ha y (by simp[hy])) h1
 split at hh
 . rename_i g cap he;rw[he] at hf;have DD:GJ h (args.map (ev ⟨env,h,n⟩)++cap):=by
     intro id hi;rw[Sy,Aw] at hi;rcases hi with h1 | h1
     . exact I5 id h1
     . exact hf id h1
   refine Ct (Ca (λ y hy=>?_) (Ok hx hn DD (Ce hh)));obtain ⟨⟨h1,IM,h2⟩,hp1,Yk,Pn⟩:=hy;exact ⟨h2.1,⟨h1,IM,h2.2⟩,Pn.Adf.2 hp1,Yk,Pn⟩
 . exact hh.elim
theorem DA(st:St)(t:Option Nat)(d:D):(st.put t d).hp=st.hp:=by
 cases t with
 | none=>rfl
 | some t=>simp only[St.put];split<;>rfl
theorem TY{K:St->Prop}{env:List (Nat×D)}{n:Nat}{dst:Option Nat}(y h2:Hp)(d:D)(hk:K ((⟨env,h2,n⟩:St).put dst d)):K {(⟨env,y,n⟩:St).put dst d with hp:=h2}:=by
 cases dst with
 | none=>exact hk
 | some t=>
   simp only[St.put] at hk ⊢;split
   . rename_i ht;rw[if_pos ht] at hk;exact hk
   . rename_i ht;rw[if_neg ht] at hk;exact hk
theorem Aiv(d:D):DB d.cells=d.ids:=by cases d<;>simp[D.cells,D.ids,DB]
theorem Up{l:List D}{d:D}(h:d∈l):∀i∈d.ids,i∈DB l:=by
 induction l with
 | nil=>cases h
 | cons x r ih=>
   intro i hi;simp only[DB,Aw];rcases AG.1 h with rfl | h
   . exact .inl hi
   . exact .inr (ih h i hi)
theorem RH{l:List D}{i:Nat}:i∈DB l->∃d∈l,i∈d.ids:=by
 induction l with
 | nil=>intro h;simp[DB] at h
 | cons x r ih=>
   intro h;simp only[DB,Aw] at h;rcases h with h | h
   . exact ⟨x,by simp,h⟩
   . obtain ⟨d,hd,hi⟩:=ih h;exact ⟨d,by simp[hd],hi⟩
theorem UP{h:Hp}{place:Nat->Option (Nat×Nat)}:∀(ps:List (Nat×D)) (cells cs:List D),(∀x∈ps,GN h x.2)->GJ h cells->GZ place cells ps=some cs->GJ h cs
 | [],cells,cs,_,hc,hf=>by simp only[GZ,Al] at hf;subst hf;exact hc
 | (i,d)::r,cells,cs,hp,hc,hf=>by
   simp only[GZ] at hf;split at hf
   . cases hf
   . split at hf
     . refine UP r _ cs (λ x hx=>hp x (by simp[hx])) ?_ hf;intro id hi;obtain ⟨d2,I4,Ea⟩:=RH hi;rcases Aw.1 I4 with h1 | h1
       . rcases Aw.1 h1 with h2 | h2
         . exact hc id (Up (Bv h2) id Ea)
         . have:=Up h2 id Ea;rw[Aiv] at this;exact hp (i,d) (by simp) id this
       . exact hc id (Up (List.mem_of_mem_drop h1) id Ea)
     . cases hf
theorem Au9{env:List (Nat×D)}{n:Nat}(hx:HX e h h')(he:∀id,get e id≠none->id<10000)(hn:I1 h){o:Oper}(hq:isQ o.op=true)(ho:∀x∈o.op.operands.toList,GN h (ev ⟨env,h,n⟩ x)){K:St->Prop}(hh:Rd P false o K ⟨env,h',n⟩):
   Rd P false o (λ st=>(∃EN,HX e st.hp EN/\K {st with hp:=EN})/\E9 (some (o.dst.getD 0)) h st.hp) ⟨env,h,n⟩:=by
 have ef:ev ⟨env,h',n⟩=ev ⟨env,h,n⟩:=funext λ _=>rfl;unfold Rd at*;split at hh
 . rename_i f args hc;rcases D8 hh with hh | hh
   case inr=>exact (AJ hh.1).elim
   have La:(∀x∈f::args,x∈o.op.operands.toList):=by
     unfold Dl at hc;split at hc
     case h_2=>cases hc
     rename_i cl Pt;split at hc
     case h_2=>cases hc
     rename_i f' hf';simp only[Al,BV] at hc;obtain ⟨rfl,rfl⟩:=hc;intro x hxm;rw[Pt];simp[Op.operands,Call.operands,hf'] at hxm ⊢;exact hxm
   simp only[L5] at hh ⊢;refine DT (Ca (λ x HT=>?_) (Apd hx hn (ho f (La f (by simp))) (λ x hx3=>ho x (La x (by simp[hx3]))) hh));obtain ⟨⟨h1,IM,hc⟩,hp1,Yk,Pn⟩:=HT;refine PL (λ d y hy=>?_) (Apf IM he Yk hp1 hc);obtain ⟨⟨h2,HT,hk⟩,Nl⟩:=hy;refine ⟨⟨h2,by rw[DA];exact HT,TY _ _ _ hk⟩,λ i hi=>?_⟩;rw[DA] at hi;rcases Nl i hi with h3 | h3 | h3
   . exact .inl ((Pn i).1 h3)
   . cases h3
   . exact .inr (.inr h3)
 . rcases D8 hh with hh | hh
   case inr=>exact (AJ hh.1).elim
   have fin:∀{r:Rs (D×Hp)},r.all (Beh e h (some (o.dst.getD 0)) λ x=>K ((⟨env,x.2,n⟩:St).put o.dst x.1))->
       r.JY (false=true/\OV P o (λ st=>(∃EN,HX e st.hp EN/\K {st with hp:=EN})/\E9 (some (o.dst.getD 0)) h st.hp) ⟨env,h,n⟩) (λ x=>(λ st:St=>(∃EN,HX e st.hp EN/\K {st with hp:=EN})/\E9 (some (o.dst.getD 0)) h st.hp) ((⟨env,x.2,n⟩:St).put o.dst x.1)):=λ hr=>
     DT (Ca (λ x HT=>by
       obtain ⟨⟨h1,IM,hk⟩,Nl⟩:=HT;exact ⟨⟨h1,by rw[DA];exact IM,TY _ _ _ hk⟩,by rw[DA];exact Nl⟩) hr)
   refine fin ?_;cases La:o.op with
   | call cl=>
     cases Pt:cl.callee with
     | builtin b=>
       cases b<;>rw[La] at hq<;>simp only[isQ,Pt,AM] at hq
       . simp only[Ky,La,Pt,ef] at hh ⊢;have I5:∀x∈cl.args.toList,GN h (ev ⟨env,h,n⟩ x):=λ x hx3=>ho x (by rw[La];simp[Op.operands,Call.operands,Pt];simpa using hx3);generalize hl:cl.args.toList.map (ev ⟨env,h,n⟩)=l at hh ⊢;rcases l with _ | ⟨s,_ | ⟨x,_ | ⟨z,r⟩⟩⟩
         . exact hh.elim
         . cases s<;>first | exact hh.elim | (rename_i z;cases z<;>exact hh.elim)
         . obtain ⟨sq,xq,IE,rfl,rfl⟩:=Iw hl;have hb3:∀hz:Hp,Fo P ⟨env,hz,n⟩ (o.dst.getD 0) .append cl.argTypes [ev ⟨env,h,n⟩ sq,ev ⟨env,h,n⟩ xq]=match cl.argTypes[0]?,cl.argTypes[1]? with
             | some t,some t2=>Vo P hz (o.dst.getD 0) t t2 (ev ⟨env,h,n⟩ sq) (ev ⟨env,h,n⟩ xq)
             | _,_=> .fail:=λ _=>rfl
           rw[hb3] at hh ⊢;split at hh
           . rename_i t t2 h1 h2;exact Asl hx (I5 sq (by rw[IE];simp)) (I5 xq (by rw[IE];simp)) hh
           . exact hh.elim
         . first | exact hh.elim | (cases s<;>first | exact hh.elim | (rename_i z1;cases z1<;>exact hh.elim))
       . simp only[Ky,La,Pt,ef] at hh ⊢;have I5:∀x∈cl.args.toList,GN h (ev ⟨env,h,n⟩ x):=λ x hx3=>ho x (by rw[La];simp[Op.operands,Call.operands,Pt];simpa using hx3);generalize hl:cl.args.toList.map (ev ⟨env,h,n⟩)=l at hh ⊢;rcases l with _ | ⟨s,_ | ⟨x,_ | ⟨z,r⟩⟩⟩
         . exact hh.elim
         . cases s<;>first | exact hh.elim | (rename_i z;cases z<;>exact hh.elim)
         . obtain ⟨sq,xq,IE,rfl,rfl⟩:=Iw hl;have hb3:∀hz:Hp,Fo P ⟨env,hz,n⟩ (o.dst.getD 0) .copy cl.argTypes [ev ⟨env,h,n⟩ sq,ev ⟨env,h,n⟩ xq]=match cl.argTypes[0]?,cl.argTypes[1]? with
             | some t,some _=>NH P hz t (ev ⟨env,h,n⟩ sq) (ev ⟨env,h,n⟩ xq)
             | _,_=> .fail:=λ _=>rfl
           rw[hb3] at hh ⊢;split at hh
           . rename_i t t2 h1 h2;exact Ap7 hx (I5 sq (by rw[IE];simp)) (I5 xq (by rw[IE];simp)) hh
           . exact hh.elim
         . first | exact hh.elim | (cases s<;>first | exact hh.elim | (rename_i z1;cases z1<;>exact hh.elim))
     | _=>rw[La] at hq;rename_i hc _;simp only[isQ,Pt,AM] at hq<;>simp_all [Dl]
   | store t a v=>
     simp only[Ky,La,LP,ef] at hh ⊢;have h1:=Aer hx hn (ho a (by rw[La];simp[Op.operands])) (ho v (by rw[La];simp[Op.operands])) (Ce hh);refine Ct (Ca (λ y hy=>?_) h1);obtain ⟨⟨h2,HT,hk⟩,Nl⟩:=hy;refine ⟨hk.1,⟨h2,HT,hk.2⟩,λ i hi=>?_⟩;rcases Nl i hi with h3 | h3 | h3
     . exact .inl h3
     . cases h3
     . exact .inr (.inr h3)
   | slice t x lo hi mx=>
     have hp:=ho x (by rw[La];simp[Op.operands]);have hsl:H2 P ⟨env,h',n⟩ t (ev ⟨env,h,n⟩ x) lo hi mx=H2 P ⟨env,h,n⟩ t (ev ⟨env,h,n⟩ x) lo hi mx:=by
       have hb:∀o d,Ei ⟨env,h',n⟩ o d=Ei ⟨env,h,n⟩ o d:=λ o d=>by cases o<;>rfl
       generalize ev ⟨env,h,n⟩ x=d at hp;unfold H2;simp only[hb];rcases CJ P t with _ | ⟨s1,b1,k1,z1⟩
       . rfl
       cases k1 with
       | string=>cases d with
         | p y=>cases y<;>rfl
         | _=>rfl
       | slice e=>
         simp only;cases CJ P e with
         | none=>rfl
         | some ti=>cases d with
           | p y=>cases y<;>rfl
           | ref id off len N=>
             have:sg h' id=sg h id:=by simp only[sg,hx.eq (hp id (by simp[D.ids]))]
             simp only[this]
           | _=>rfl
       | _=>rfl
     simp only[Ky,La,Kj,ef] at hh ⊢;rw[hsl] at hh;have h1:=Ce hh;refine Ct (Ca (λ y hy=>?_) h1);exact ⟨hy.1,⟨h',hx,hy.2⟩,E9.refl _ _⟩
   | buildSlice t n2 ps=>
     have hps:∀x∈ps.toList.map (λ q=>(q.1,ev ⟨env,h,n⟩ q.2)),GN h x.2:=λ x hx3=>by
       obtain ⟨q,hq3,rfl⟩:=AU.1 hx3;exact ho q.2 (by rw[La];simp[Op.operands];exact ⟨q.1,by simpa using hq3⟩)
     simp only[Ky,La,LP,ef] at hh ⊢;split at hh
     . split at hh
       . split at hh
         . rename_i cs hcs;have hpc:GJ h cs:=UP _ _ _ hps (λ id hi=>by
             obtain ⟨d2,I4,Ea⟩:=RH hi;rw[List.mem_replicate] at I4;rw[I4.2] at Ea;simp[D.ids] at Ea) hcs
           split at hh
           . exact hh.elim
           rename_i hnr;rw[if_neg hnr];refine Ct (Ca (λ y hy=>?_) (TZ hx hn hpc (Ce hh)));obtain ⟨⟨h2,HT,hk⟩,hn2,IF⟩:=hy;refine ⟨⟨hk.1.1,hk.1.2.1,HT.nn' hk.1.2.2⟩,⟨_,HT.cons _ _,hk.2⟩,λ i hi=>?_⟩;rw[Cw] at hi;split at hi
           . rename_i ej;exact .inr (.inl (by rw[ej]))
           . exact .inl ((IF i).1 hi)
         . exact hh.elim
       . exact hh.elim
     . exact hh.elim
   | mapUpdate t m i x=>
     simp only[Ky,La,LP,ef] at hh ⊢;have h1:=Afu hx (ho m (by rw[La];simp[Op.operands])) (Ce hh);refine Ct (Ca (λ y hy=>?_) h1);obtain ⟨⟨h2,HT,hk⟩,Nl⟩:=hy;refine ⟨hk.1,⟨h2,HT,hk.2⟩,λ i hi=>?_⟩;rcases Nl i hi with h3 | h3 | h3
     . exact .inl h3
     . cases h3
     . exact .inr (.inr h3)
   | load t a=>
     have hp:=ho a (by rw[La];simp[Op.operands]);simp only[Ky,La,Kj,ef] at hh ⊢;rw[Alo hx hp] at hh;have h1:=Ce hh;refine Ct (Ca (λ y hy=>?_) h1);exact ⟨hy.1,⟨h',hx,hy.2⟩,E9.refl _ _⟩
   | _=>rw[La] at hq;simp[isQ] at hq
end
end Go.Am
namespace Go.Am
open Go
mutual
def MA (h:Hp):D->D->Prop
  | .p x,d=>d= .p x
  | .cl es,d=>d= .p (.sl es)
  | .ref id off len N,d=>match get h id with
    | some (.arr _ _ es)=>N=es.length/\d= .p (.sl ((es.drop off).take len))
    | some (.Nw _ es)=>N=es.length/\d= .p (.sl ((es.drop off).take len))
    | _=>False
  | .DI id n,d=>match get h id with
    | some (.DF _ _ _ _ rows none)=>n=rows.length/\d= .p (.sl (rows.map λ r=>[.sl r]))
    | _=>False
  | .nr id i len k,d=>match get h id with
    | some (.DF _ _ _ k2 rows none)=>(k=k2/\i<rows.length/\len=(rows.getD i []).length)/\d= .p (.sl (rows.getD i []))
    | _=>False
  | .agg cs,.agg cs'=>GF h cs cs'
  | .fn f cap,.fn f' Apc=>f'=f/\GF h cap Apc
  | _,_=>False
def GF (h:Hp):List D->List D->Prop
  | [],[]=>True
  | d::r,d'::r'=>MA h d d'/\GF h r r'
  | _,_=>False
end
def D.Xc:D->Bool
 | .p x=>x.flat
 | _=>false
def D.flat:D->Bool
 | .p x=>x.flat
 | .Dv cs=>cs.all D.Xc
 | .agg cs=>cs.all D.Xc
 | _=>false
mutual
def D.HO:D->D
  | .p x=>if x.flat then .p x else .SW
  | .agg cs=> .agg (IH cs)
  | .Dv cs=> .Dv (IH cs)
  | _=> .bad
def IH:List D->List D
  | []=>[]
  | d::r=>d.HO::IH r
end
theorem O7:∀cs:List D,(IH cs).length=cs.length
 | []=>rfl
 | _::r=>by simp[IH,O7 r]
theorem O8:∀(cs:List D) (i:Nat),(IH cs)[i]?=(cs[i]?).map D.HO
 | [],i=>by simp[IH]
 | d::r,0=>by simp[IH]
 | d::r,i+1=>by simp[IH,O8 r i]
theorem Si:∀{d:D},d.Xc=true->d.HO=d
 | .p x,h=>by simp only[D.Xc] at h;simp[D.HO,h]
 | .agg _,h | .Dv _,h | .cl _,h | .cz _,h | .ref _ _ _ _,h | .ptr _ _,h | .pe _,h | .ea _ _ _ _,h | .fn _ _,h | .np,h | .mv _,h | .DI _ _,h | .M9 _ _ _,h | .nr _ _ _ _,h | .SW,h | .bad,h=>by simp[D.Xc] at h
theorem MM:∀{cs:List D},cs.all D.Xc=true->IH cs=cs
 | [],_=>rfl
 | d::r,h=>by
   simp only[List.all_cons,As] at h;simp[IH,Si h.1,MM h.2]
theorem TH{d:D}(h:d.flat=true):d.HO=d:=by
 cases d with
 | p x=>exact Si h
 | agg cs=>simp only[D.flat] at h;simp[D.HO,MM h]
 | Dv cs=>simp only[D.flat] at h;simp[D.HO,MM h]
 | _=>simp[D.flat] at h
section
variable {F F':Nat->Prop} {w w':World} {M M':Nat->Mb} {s s':Nat->Option Sg} {h h' e:Hp}
theorem DR.HO{d:D}{v:Value}(hr:DR F w M s d v):DR F' w' M' s' d.HO v:=by
 induction hr with
 | p hp=>
   simp only[D.HO];split
   . rename_i hf;cases hp with
     | int k n=>exact .p (.int k n)
     | bool b=>exact .p (.bool b)
     | str l=>exact .p (.str l)
     | Zq a cap=>simp[Pd.flat] at hf
     | sl es b off cap sz row t fr _ _ _ _ _ _=>simp[Pd.flat] at hf
   . exact .SW _ hp.Jc
 | agg cs vs hl hc ih=>
   simp only[D.HO];refine .agg _ vs (by rw[O7];exact hl) λ i c hi=>?_;rw[O8] at hi;cases hg:cs[i]? with
   | none=>rw[hg] at hi;cases hi
   | some x=>rw[hg] at hi;cases hi;exact ih i x hg
 | Dv cs vs hl hc ih=>
   simp only[D.HO];refine .Dv _ vs (by rw[O7];exact hl) λ i c hi=>?_;rw[O8] at hi;cases hg:cs[i]? with
   | none=>rw[hg] at hi;cases hi
   | some x=>rw[hg] at hi;cases hi;exact ih i x hg
 | _=>simp only[D.HO];exact .bad _
def Aea(F:Nat->Prop)(M:Nat->Mb)(h:Hp):Nat->Prop:=λ b=>F b∨E8 M h b
mutual
theorem Ajd (hr:HR F w M h):∀(d d':D) {v:Value},DR F w M (sg h) d v->MA h d d'->DR (Aea F M h) w M (sg []) d' v
  | .p x,d',v,hd,hb=>by
    simp only[MA] at hb;subst hb;cases hd with | p hp=>exact .p (hp.CW (λ _ _=>rfl) λ b hb=> .inl hb)
  | .cl es,d',v,hd,hb=>by
    simp only[MA] at hb;subst hb;cases hd with | cl _ ad hp _=>exact .p (hp.CW (λ _ _=>rfl) λ b hb=> .inl hb)
  | .ref id off len N,d',v,hd,hb=>by
    simp only[MA] at hb;cases hd with | ref _ _ _ _ sz n _ hs hN hv hx=>
      split at hb
      . rename_i t Sb es ho;obtain ⟨SD,rfl⟩:=hb;have:Sb=sz/\es.length=n:=by simpa [sg,ho,AO.sg] using hs
        obtain ⟨rfl,rfl⟩:=this;exact .p (Kg (st:=⟨[],h,0⟩) hr (.inl ⟨t,ho⟩) rfl (hx SD) (λ b hb=> .inl hb) λ hc=> .inr ⟨id,_,ho,hc,rfl⟩)
      . rename_i Sb es ho;obtain ⟨SD,rfl⟩:=hb;have:Sb=sz/\es.length=n:=by simpa [sg,ho,AO.sg] using hs
        obtain ⟨rfl,rfl⟩:=this;have hob:=hr.obj id _ ho;exact .p (Kg (st:=⟨[],h,0⟩) hr (.inr ho) rfl (hx SD) (λ b hb=> .inl hb) λ hc=> .inl (hob.2.2.2 hc).1)
      . exact hb.elim
  | .DI id n,d',v,hd,hb=>by
    simp only[MA] at hb;cases hd with | DI _ _ sz m k _ hs hN hv hx=>
      split at hb
      . rename_i t e2 Sb k2 rows ho;obtain ⟨SD,rfl⟩:=hb;have:Sb=sz/\rows.length=m/\k2=k:=by simpa [sg,ho,AO.sg] using hs
        obtain ⟨rfl,rfl,rfl⟩:=this;refine .p ((P2 (st:=⟨[],h,0⟩) hr ho (by have:=hx SD;rwa[SD] at this)).CW (λ _ _=>rfl) λ b hb=>?_);rcases hb with hb | hb
        . exact .inl hb
        . exact .inr ⟨id,_,ho,hb⟩
      . exact hb.elim
  | .nr id i len q,d',v,hd,hb=>by
    simp only[MA] at hb;cases hd with | nr _ _ _ _ sz m k _ hs hN hv hx=>
      split at hb
      . rename_i t e2 Sb k2 rows ho;obtain ⟨⟨SD,W1,hb3⟩,rfl⟩:=hb;have:Sb=sz/\rows.length=m/\k2=k:=by simpa [sg,ho,AO.sg] using hs
        obtain ⟨rfl,rfl,rfl⟩:=this;obtain ⟨bc,g1,g2,a,g3,g4⟩:=hx SD;have hn:Ie F w (M id) t e2 Sb rows none:=hr.obj id _ ho;have hg:rows[i]?=some (rows.getD i []):=by simp[List.getD,W1]
        subst g3;rw[hb3];exact .p ((hn.rows i _ bc hg g1 (by simp)).pure (λ b hb=> .inl hb) (λ hc=> .inr ⟨id,_,ho,.inr ⟨i,bc,g1,hc,rfl⟩⟩) g4)
      . exact hb.elim
  | .agg cs,.agg cs',v,hd,hb=>by
    simp only[MA] at hb;cases hd with | agg _ vs hl hc=>
      have h1:=Me hr cs cs' (vs:=vs.toList) (by simpa using hl) (λ i e he=>by have:=hc i e he;simpa [List.getD,Array.getD_eq_getD_getElem?] using this) hb;exact .agg _ vs (by have:=h1.1;simpa using this) (λ i e he=>by have:=h1.2 i e he;simpa [List.getD,Array.getD_eq_getD_getElem?] using this)
  | .fn f cap,.fn f' Apc,v,hd,hb=>by
    simp only[MA] at hb;obtain ⟨rfl,hb⟩:=hb;cases hd with | fn _ _ vs hl hc=>
      have h1:=Me hr cap Apc (vs:=vs.toList) (by simpa using hl) (λ i e he=>by have:=hc i e he;simpa [List.getD,Array.getD_eq_getD_getElem?] using this) hb;exact .fn _ _ vs (by have:=h1.1;simpa using this) (λ i e he=>by have:=h1.2 i e he;simpa [List.getD,Array.getD_eq_getD_getElem?] using this)
theorem Me (hr:HR F w M h):∀(ds r8:List D) {vs:List Value},vs.length=ds.length->(∀(i:Nat) c,ds[i]?=some c->DR F w M (sg h) c (vs.getD i undef))->GF h ds r8->KA (Aea F M h) w M (sg []) r8 vs
  | [],[],vs,hl,_,_=>⟨hl,λ i c hi=>by simp at hi⟩
  | d::r,d'::r',vs,hl,hc,hb=>by
    simp only[GF] at hb;rcases vs with _ | ⟨x,vs⟩
    . simp at hl
    have h0:=Ajd hr d d' (v:=x) (by simpa using hc 0 d rfl) hb.1;have h1:=Me hr r r' (vs:=vs) (by simpa using hl) (λ i c hi=>by simpa using hc (i+1) c (by simpa using hi)) hb.2;refine ⟨by simp[h1.1],λ i c hi=>?_⟩;rcases i with _ | i
    . simp at hi;subst hi;simpa using h0
    . simpa using h1.2 i c (by simpa using hi)
end
mutual
theorem Aje:∀(d d':D),(∀id∈d.ids,get h' id=get h id)->MA h d d'->MA h' d d'
  | .p x,d',_,hb=>by simp only[MA] at hb ⊢;exact hb
  | .cl es,d',_,hb=>by simp only[MA] at hb ⊢;exact hb
  | .ref id off len N,d',hg,hb=>by simp only[MA] at hb ⊢;rw[hg id (by simp[D.ids])];exact hb
  | .DI id n,d',hg,hb=>by simp only[MA] at hb ⊢;rw[hg id (by simp[D.ids])];exact hb
  | .nr id i len q,d',hg,hb=>by simp only[MA] at hb ⊢;rw[hg id (by simp[D.ids])];exact hb
  | .agg cs,.agg cs',hg,hb=>by simp only[MA] at hb ⊢;exact J2 cs cs' (λ id hi=>hg id (by simpa [D.ids] using hi)) hb
  | .fn f cap,.fn f' Apc,hg,hb=>by simp only[MA] at hb ⊢;exact ⟨hb.1,J2 cap Apc (λ id hi=>hg id (by simpa [D.ids] using hi)) hb.2⟩
theorem J2:∀(ds r8:List D),(∀id∈DB ds,get h' id=get h id)->GF h ds r8->GF h' ds r8
  | [],[],_,_=>by simp only[GF]
  | d::r,d'::r',hg,hb=>by
    simp only[GF] at hb ⊢;exact ⟨Aje d d' (λ id hi=>hg id (by simp[DB,hi])) hb.1,J2 r r' (λ id hi=>hg id (by simp[DB,hi])) hb.2⟩
end
end
def Vt(P:Program)(o:Oper)(K:St->Prop)(st:St):Prop:=
 ∃(f:Operand) (args:List Operand) (g:FuncId) (cap ds:List D),Dl o.op=some (f,args)/\ev st f= .fn g cap/\GF st.hp (args.map (ev st)++cap) ds/\
   B2 P g ds [] λ h r=>h=[]/\K (st.put o.dst r.HO)
section
variable {P:Program} {c:Ctx} {st st':St} {a:Act} {w:World} {F:Nat->Prop} {M:Nat->Mb} {o:Oper} {K K':St->Prop}
theorem Rel.Afy(hr:Rel c st a w F M){v:Value}{w':World}{F':Nat->Prop}{M':Nat->Mb}{d:D}(hd:DR F' w' M' (sg []) d v)(hk:Aq1 ⟨w,Aea F M st.hp,E8 M [],M,sg []⟩ w' F' M' []):
   Rel c st a w' F M/\DR F w' M (sg st.hp) d.HO v:=by
 have Oz:∀b,¬E8 M [] b:=by rintro b ⟨id,o,ho,_⟩;simp[get] at ho
 have hold:∀b,b<w.heap.size->w'.heap[b]?=w.heap[b]?:=λ b hb=>hk.N2 b hb (Oz b);have FJ:w.heap.size<=w'.heap.size:=hk.size;have hF:∀b,F b->w'.heap[b]?=w.heap[b]?:=λ b hb=>hold b (hr.CW.Fl b hb);have hO:∀b,E8 M st.hp b->w'.heap[b]?=w.heap[b]?:=λ b hb=>hold b (hr.heap.lt hb);refine ⟨⟨λ t d ht=>(hr.env t d ht).CW hF (λ _ h=>h) (C1.refl _ _),hr.size,hr.defers,hr.heap.CW hF hO,?_⟩,hd.HO⟩;have Hn:=hr.CW;exact ⟨hk.os.trans Hn.os,hk.tape.trans Hn.tape,hk.output.trans Hn.output,Bp Hn.size FJ,λ b hb hO=>(hold b (Nat.lt_of_lt_of_le hb Hn.size)).trans (Hn.N2 b hb hO),Hn.F0,Hn.Fn,
   λ b hb=>Nat.lt_of_lt_of_le (Hn.Fl b hb) FJ,Hn.own,Hn.XQ,Hn.s0b⟩
theorem PT(hr:Rel c st a w F M)(hb:Vt P o K st)(Q:Exit->Act->World->Prop):o.wp P a w (Good c K) Q:=by
 obtain ⟨f,args,g,cap,ds,ho,hg,Aml,No⟩:=hb;unfold Dl at ho;split at ho
 case h_2=>cases ho
 rename_i cl La;split at ho
 case h_2=>cases ho
 rename_i f' hf;simp only[Al,BV] at ho;obtain ⟨rfl,rfl⟩:=ho;have hfv:=Co hr f';rw[hg] at hfv;generalize hvf:a.eval f'=vf at hfv;cases hfv with
 | fn _ _ Vf hl hc=>
   have I5:=(RU hr cl.args.toList).append (cs':=cap) (vs':=Vf.toList) ⟨by simpa using hl,λ i e he=>by have:=hc i e he;simpa [List.getD,Array.getD_eq_getD_getElem?] using this⟩;have V4:=Me hr.heap _ _ I5.1 I5.2 Aml;have Am6:=No (cl.args.map a.eval++Vf) w (Aea F M st.hp) M ⟨λ id o ho=>by simp[get] at ho,λ id o PW o' b ho=>by simp[get] at ho⟩
     (λ b hb=>hb.elim (hr.CW.Fl b) hr.heap.lt) (λ id hid=>by simp[sg,get] at hid) (by simpa using V4)
   rcases Am6 with ⟨UE,Pu⟩ | ⟨v,w',IN,Kd⟩
   . have DE:(execOp a.eval o).run P w= .ok (.enter g (cl.args.map a.eval++Vf)) w:=by
       simp only[execOp,La,hf,resolve,hvf,Deferred.ofValue,Sem.run_bind,Sem.run_pure,Result.andThen_ok,invoke,Array.empty_append];exact UE
     unfold Oper.wp;rw[DE];refine Pu.mono ?_;rintro e w' ⟨v,h',r,F2,M2,rfl,⟨rfl,hk⟩,_,hd,Hl⟩;obtain ⟨HM,I4⟩:=hr.Afy hd Hl;exact ⟨_,F,M,hk,HM.put I4 o.dst⟩
   . have DE:(execOp a.eval o).run P w= .ok (.value v) w':=by
       simp only[execOp,La,hf,resolve,hvf,Deferred.ofValue,Sem.run_bind,Sem.run_pure,Result.andThen_ok,invoke,Array.empty_append];exact IN
     obtain ⟨v2,h',r,F2,M2,Us,⟨rfl,hk⟩,_,hd,Hl⟩:=Kd;cases Us;obtain ⟨HM,I4⟩:=hr.Afy hd Hl;unfold Oper.wp;rw[DE];exact ⟨_,F,M,hk,HM.put I4 o.dst⟩
theorem Uk{f:Operand}{args:List Operand}(hc:Dl o.op=some (f,args)):∀x∈f::args,x∈o.op.operands.toList:=by
 unfold Dl at hc;split at hc
 case h_2=>cases hc
 rename_i cl Pt;split at hc
 case h_2=>cases hc
 rename_i f' hf';simp only[Al,BV] at hc;obtain ⟨rfl,rfl⟩:=hc;intro x hxm;rw[Pt];simp[Op.operands,Call.operands,hf'] at hxm ⊢;exact hxm
theorem Vs(h:∀x∈o.op.operands.toList,ev st' x=ev st x)(hp:∀id,get st'.hp id=get st.hp id)(hK:∀d,K (st.put o.dst d)->K' (st'.put o.dst d))(hb:Vt P o K st):Vt P o K' st':=by
 obtain ⟨f,args,g,cap,ds,ho,hg,Aml,No⟩:=hb;have hx:=Uk ho;have I5:args.map (ev st')=args.map (ev st):=List.map_congr_left λ x HT=>h x (hx x (by simp[HT]));refine ⟨f,args,g,cap,ds,ho,(h f (hx f (by simp))).trans hg,?_,No.mono λ h' r hr=>⟨hr.1,hK _ hr.2⟩⟩;rw[I5];exact J2 _ _ (λ id _=>hp id) Aml
theorem At1{env:List (Nat×D)}{n:Nat}{e h h':Hp}(hx:HX e h h')(ho:∀x∈o.op.operands.toList,GN h (ev ⟨env,h,n⟩ x))(hb:Vt P o K ⟨env,h',n⟩):
   Vt P o (λ st=>(∃EN,HX e st.hp EN/\K {st with hp:=EN})/\E9 (some (o.dst.getD 0)) h st.hp) ⟨env,h,n⟩:=by
 obtain ⟨f,args,g,cap,ds,hc,hg,Aml,No⟩:=hb;have Axx:=Uk hc;refine ⟨f,args,g,cap,ds,hc,hg,?_,No.mono λ h2 r hr=>⟨hr.1,⟨h',by rw[DA];exact hx,TY _ _ _ hr.2⟩,λ i hi=>by rw[DA] at hi;exact .inl hi⟩⟩;refine J2 _ _ (λ id hid=>?_) Aml;rw[Sy,Aw] at hid;have ON:get h id≠none:=by
   rcases hid with h1 | h1
   . obtain ⟨d,hd,hi⟩:=RH h1;obtain ⟨x,HT,rfl⟩:=AU.1 hd;exact ho x (Axx x (by simp[HT])) id hi
   . have h3:=ho f (Axx f (by simp)) id;have e2:ev ⟨env,h,n⟩ f= .fn g cap:=hg;rw[e2] at h3;exact h3 (by simpa [D.ids] using h1)
 exact (hx.eq ON).symm
def Y8(P:Program)(o:Oper)(K:St->Prop)(st:St):Prop:=Rd P false o K st∨Vt P o K st
theorem Aef(hr:Rel c st a w F M)(h:Y8 P o K st)(Q:Exit->Act->World->Prop):o.wp P a w (Good c K) Q:=h.elim (λ h=>Ra hr h Q) λ h=>PT hr h Q
end
end Go.Am
namespace Go.Am
open Go
structure MG(st st':St):Prop where
 n:st'.n=st.n
 env:∀t,get st'.env t=get st.env t
 hp:∀id,get st'.hp id=get st.hp id
theorem MG.refl(st:St):MG st st:=⟨rfl,λ _=>rfl,λ _=>rfl⟩
theorem MG.symm{a b:St}(h:MG a b):MG b a:=⟨h.n.symm,λ t=>(h.env t).symm,λ t=>(h.hp t).symm⟩
theorem MG.trans{a b c:St}(h:MG a b)(h':MG b c):MG a c:=⟨h'.n.trans h.n,λ t=>(h'.env t).trans (h.env t),λ t=>(h'.hp t).trans (h.hp t)⟩
theorem Rel.eqv{c:Ctx}{st st':St}{a:Act}{w:World}{F:Nat->Prop}{M:Nat->Mb}(hr:Rel c st a w F M)(h:MG st st'):Rel c st' a w F M:=by
 have hs:sg st'.hp=sg st.hp:=funext λ id=>by unfold sg;rw[h.hp]
 refine ⟨λ t d ht=>?_,by rw[h.n];exact hr.size,hr.defers,?_,?_⟩
 . rw[hs];exact hr.env t d (by rw[<-h.env];exact ht)
 . exact ⟨λ id o ho=>by rw[hs];exact hr.heap.obj id o (by rw[<-h.hp];exact ho),λ id o PW o' b ho N7=>hr.heap.inj id o PW o' b (by rw[<-h.hp];exact ho) (by rw[<-h.hp];exact N7)⟩
 . have hk:=hr.CW;exact ⟨hk.os,hk.tape,hk.output,hk.size,hk.N2,hk.F0,hk.Fn,hk.Fl,λ b ⟨id,o,ho,h1⟩=>hk.own b ⟨id,o,by rw[<-h.hp];exact ho,h1⟩,by rw[hs];exact hk.XQ,hk.s0b⟩
def Tf(K:St->Prop):Prop:=∀st st',MG st st'->K st->K st'
def Aw5(K:St->Prop):St->Prop:=λ st=>∃st',MG st st'/\K st'
theorem Tf.of(K:St->Prop):Tf (Aw5 K):=λ _ _ h ⟨s,h1,h2⟩=>⟨s,h.symm.trans h1,h2⟩
theorem Yw{st st':St}(h:MG st st')(x:Operand):ev st' x=ev st x:=by
 cases x<;>simp only[ev,h.env]
theorem HG{st:St}{t:Option Nat}{d:D}(q:Nat):get (st.put t d).env q=if t=some q/\q<st.n then some d else get st.env q:=by
 cases t with
 | none=>simp[St.put]
 | some t=>
   simp only[St.put];by_cases ht:t<st.n
   . rw[if_pos ht];simp only[Cw,Al];by_cases e:t=q
     . subst e;simp[ht]
     . simp[e]
   . rw[if_neg ht];by_cases e:t=q
     . subst e;simp[ht]
     . simp[e]
theorem JI(st:St)(t:Option Nat)(d:D):(st.put t d).n=st.n:=by
 cases t with
 | none=>rfl
 | some t=>simp only[St.put];split<;>rfl
theorem MG.put{st st':St}(h:MG st st')(t:Option Nat)(d:D):MG (st.put t d) (st'.put t d):=by
 refine ⟨by rw[JI,JI];exact h.n,λ q=>?_,λ id=>by rw[DA,DA];exact h.hp id⟩;rw[HG,HG,h.n,h.env]
theorem MG.heap{st st':St}(h:MG st st'){x x':Hp}(hx:∀id,get x' id=get x id):MG {st with hp:=x} {st' with hp:=x'}:=⟨h.n,h.env,hx⟩
theorem Vr{st:St}{t u:Option Nat}{d x:D}(Dt:∀q,t=some q->u≠some q):MG ((st.put t d).put u x) ((st.put u x).put t d):=by
 refine ⟨by simp only[JI],λ q=>?_,λ id=>by simp only[DA]⟩;simp only[HG,JI];by_cases h1:t=some q/\q<st.n
 . rw[if_pos h1];have:=Dt q h1.1;simp[this,h1]
 . rw[if_neg h1];by_cases h2:u=some q/\q<st.n
   . simp[h2,h1]
   . simp[h2,h1]
section
variable {P:Program}
def Looks(l:List Oper)(o:Oper)(st st':St):Prop:=(∀x∈o.op.operands.toList,ev st' x=ev st x)/\Kx st' l o.guard=Kx st l o.guard
theorem Adl{st st':St}:∀{l:List Operand},(∀x∈l,ev st' x=ev st x)->l.map (ev st')=l.map (ev st)
 | [],_=>rfl
 | x::r,h=>by simp only[AH,h x (by simp),Adl (l:=r) (λ y hy=>h y (by simp[hy]))]
theorem Ya{st st':St}:∀{l:List (Nat×Operand)},(∀x∈l.map (·.2),ev st' x=ev st x)->l.map (λ q=>(q.1,ev st' q.2))=l.map (λ q=>(q.1,ev st q.2))
 | [],_=>rfl
 | x::r,h=>by simp only[AH,h x.2 (by simp),Ya (l:=r) (λ y hy=>h y (by simp only[AH,AG];exact .inr hy))]
theorem L9{st st':St}{o:Option Operand}{n:Int}(h:∀x∈o.toList,ev st' x=ev st x):Ei st' o n=Ei st o n:=by
 cases o with
 | none=>rfl
 | some x=>simp only[Ei,h x (by simp)]
theorem Of{st st':St}{o:Oper}(h:∀x∈o.op.operands.toList,ev st' x=ev st x)(hp:st'.hp=st.hp):Ky P st' o=Ky P st o:=by
 unfold Ky;generalize o.op=op at h;cases op with
 | call c=>
   simp only;cases hc:c.callee with
   | builtin b=>
     simp only;have:c.args.toList.map (ev st')=c.args.toList.map (ev st):=Adl λ x hx=>h x (by simp[Op.operands,Call.operands,hc];simpa using hx);rw[this];unfold Fo;rw[hp]
   | _=>rfl
 | slice t x lo hi mx=>
   have h1:ev st' x=ev st x:=h x (by simp[Op.operands]);have h2:∀n,Ei st' lo n=Ei st lo n:=λ n=>L9 λ y hy=>h y (by simp[Op.operands];cases lo<;>simp_all);have h3:∀n,Ei st' hi n=Ei st hi n:=λ n=>L9 λ y hy=>h y (by simp[Op.operands];cases hi<;>simp_all);have h4:∀m n,mx=some m->Ei st' (some m) n=Ei st (some m) n:=λ m n hm=>L9 λ y hy=>h y (by simp[Op.operands];simp_all);have:H2 P st' t (ev st x) lo hi mx=H2 P st t (ev st x) lo hi mx:=by
     unfold H2;simp only[h2,h3,hp];cases mx with
     | none=>rfl
     | some m=>simp only[h4 m _ rfl]
   simp only[Kj,h1,this,hp]
 | build t ps=>
   have h1:ps.toList.map (λ q=>(q.1,ev st' q.2))=ps.toList.map (λ q=>(q.1,ev st q.2)):=Ya λ x hx=>h x (by simpa [Op.operands] using hx);simp only[Kj,Vi,h1,hp]
 | buildSlice t n ps=>
   have h1:ps.toList.map (λ q=>(q.1,ev st' q.2))=ps.toList.map (λ q=>(q.1,ev st q.2)):=Ya λ x hx=>h x (by simpa [Op.operands] using hx);simp only[LP,h1,hp]
 | makeFunc fn first cap=>
   have h1:cap.toList.map (ev st')=cap.toList.map (ev st):=Adl λ x hx=>h x (by simp[Op.operands];exact .inr (by simpa using hx));cases fn<;>simp only[Kj,h1,hp]
 | makeMap t r=>cases r<;>simp only[LP,hp]
 | _=>simp[Op.operands] at h<;>simp only[Kj,LP,h,hp]
theorem Aa5{st st':St}{o:Oper}{f:Operand}{args:List Operand}(hc:Dl o.op=some (f,args))(h:∀x∈o.op.operands.toList,ev st' x=ev st x)(hp:st'.hp=st.hp):Hs st' f args=Hs st f args:=by
 unfold Dl at hc;split at hc
 case h_2=>cases hc
 rename_i cl Pt;split at hc
 case h_2=>cases hc
 rename_i f' hf';simp only[Al,BV] at hc;obtain ⟨rfl,rfl⟩:=hc;rw[Pt] at h;have h1:ev st' f'=ev st f':=h f' (by simp[Op.operands,Call.operands,hf']);have h2:cl.args.toList.map (ev st')=cl.args.toList.map (ev st):=Adl λ x hx=>h x (by simp[Op.operands,Call.operands,hf'];exact .inr (by simpa using hx));unfold Hs;rw[h1,h2,hp]
theorem Rc{st st':St}{o:Oper}{K K':St->Prop}(h:∀x∈o.op.operands.toList,ev st' x=ev st x)(hp:st'.hp=st.hp)
   (hK:∀y d,K (({st with hp:=y}:St).put o.dst d)->K' (({st' with hp:=y}:St).put o.dst d)) (hh:Rd P false o K st):Rd P false o K' st':=by
 unfold Rd at*;split at hh
 . rename_i f args hc;rw[Aa5 hc h hp];rcases D8 hh with hh | hh
   case inr=>exact (AJ hh.1).elim
   simp only[L5] at hh ⊢;exact DT (Ca (λ x hx=>PL (λ d y hk=>hK y d hk) hx) hh)
 . rw[Of h hp];rcases D8 hh with hh | hh
   case inr=>exact (AJ hh.1).elim
   exact DT (Ca (λ x hx=>hK _ _ hx) hh)
theorem Ajn{st:St}{o:Oper}{K K':St->Prop}(hK:∀s,K s->K' s)(hh:Rd P false o K st):Rd P false o K' st:=
 Rc (λ _ _=>rfl) rfl (λ _ _ hk=>hK _ hk) hh
theorem Aqh{st st':St}(he:MG st st'){o:Oper}{K:St->Prop}(hs:Tf K)(hh:Rd P false o K st):Rd P false o K st':=by
 have h1:Rd P false o K {st' with hp:=st.hp}:=Rc (λ x _=>Yw (st':={st' with hp:=st.hp}) ⟨he.n,he.env,λ _=>rfl⟩ x) rfl
   (λ y d hk=>hs _ _ (MG.put (MG.heap he λ _=>rfl) _ _) hk) hh
 have hx:HX [] st.hp st'.hp:=λ id=>by rw[he.hp];cases get st.hp id<;>rfl
 have h2:=Aua (env:=st'.env) (n:=st'.n) hx (λ id h=>(h rfl).elim) rfl h1;refine Ajn (λ s ⟨y,hy,hk⟩=>?_) h2;have e:MG {s with hp:=y} s:=by
   refine ⟨rfl,λ _=>rfl,λ id=>?_⟩;have:=hy id;simp only[get] at this;rw[this];cases get y id<;>rfl
 exact hs _ _ e hk
theorem NS{st st':St}{o:Oper}{K K':St->Prop}(h:∀x∈o.op.operands.toList,ev st' x=ev st x)(hp:st'.hp=st.hp)
   (hK:∀y d,K (({st with hp:=y}:St).put o.dst d)->K' (({st' with hp:=y}:St).put o.dst d)) (hh:Y8 P o K st):Y8 P o K' st':=by
 rcases hh with hh | hh
 . exact .inl (Rc h hp hK hh)
 . refine .inr (Vs h (λ id=>by rw[hp]) (λ d hk=>?_) hh);have:=hK st.hp d hk;rw[<-hp] at this;exact this
theorem Hy{st:St}{o:Oper}{K K':St->Prop}(hK:∀s,K s->K' s)(hh:Y8 P o K st):Y8 P o K' st:=
 NS (λ _ _=>rfl) rfl (λ _ _ hk=>hK _ hk) hh
theorem Ad1{st st':St}(he:MG st st'){o:Oper}{K:St->Prop}(hs:Tf K)(hh:Y8 P o K st):Y8 P o K st':=by
 rcases hh with hh | hh
 . exact .inl (Aqh he hs hh)
 . exact .inr (Vs (λ x _=>Yw he x) he.hp (λ d hk=>hs _ _ (he.put _ _) hk) hh)
theorem Au8{env:List (Nat×D)}{n:Nat}{e h h':Hp}(hx:HX e h h')(he:∀id,get e id≠none->id<10000)(hn:I1 h){o:Oper}(hq:isQ o.op=true)(ho:∀x∈o.op.operands.toList,GN h (ev ⟨env,h,n⟩ x)){K:St->Prop}(hh:Y8 P o K ⟨env,h',n⟩):
   Y8 P o (λ st=>(∃EN,HX e st.hp EN/\K {st with hp:=EN})/\E9 (some (o.dst.getD 0)) h st.hp) ⟨env,h,n⟩:=
 hh.elim (λ hh=> .inl (Au9 hx he hn hq ho hh)) λ hh=> .inr (At1 hx ho hh)
end
end Go.Am
namespace Go.Am
open Go
def F8:List D->Option (List Pd)
 | []=>some []
 | .p x::r=>(F8 r).map (x:: ·)
 | .cl es::r=>(F8 r).map (.sl es:: ·)
 | _::_=>none
def I0(P:Program)(st:St)(q:Nat)(op:Op):Rs (D×AO):=
 match op with
 | .alloc t=>match CJ P t with
   | some ti=>match ti.zero.stored with
     | some cs=> .ret True (.ptr q 0,.box cs (npT t cs))
     | none=> .fail
   | none=> .fail
 | .box _ x=>match (ev st x).stored with
   | some cs=> .ret True (.ptr q 0,.box cs)
   | none=> .fail
 | .buildSlice t n parts=>match CJ P t with
   | some ⟨_,_,.slice e,_⟩=>match CJ P e with
     | some ti=>match GZ (λ i=>some (i*ti.size,ti.size)) (List.replicate (n*ti.size) .bad) (parts.toList.map λ q=>(q.1,ev st q.2)) with
       | some cs=>if X4 ti cs=true then .fail else match F8 cs with
         | some y=> .ret (0<ti.size/\n*ti.size<=16777216) (.ref q 0 n n,.arr e ti.size (chunk ti.size n y))
         | none=> .fail
       | none=> .fail
     | none=> .fail
   | _=> .fail
 | .makeSlice t l m=>match CJ P t,ev st l,ev st m with
   | some ⟨_,_,.slice e,_⟩,.p (.int _ l),.p (.int _ m)=>match CJ P e with
     | some ti=>if ti.k.Ark=true then .fail else match F8 ti.zero.cells with
       | some y=> .ret (0<ti.size/\(0<=l/\l<=m/\m*ti.bytes<=140737488355328/\m<=140737488355328)/\ti.zero.cells.length=ti.size) (.ref q 0 l.toNat l.toNat,.arr e ti.size (List.replicate l.toNat y))
       | none=> .fail
     | none=> .fail
   | _,_,_=> .fail
 | _=> .fail
def Gp(P:Program)(l:List Oper)(hR:Hp):List (Nat×Nat)->(St->Prop)->St->Prop
 | [],K,st=>K st
 | (i,kd)::r,K,st=>match l[i]? with
   | none=>False
   | some o=>F6 st l o.guard (match kd with
     | 0=>(Ky P {st with hp:=hR} o).all λ x=>Gp P l hR r K (st.put o.dst x.1)
     | 1=>(I0 P st (o.dst.getD 0) o.op).all λ x=>get st.hp (o.dst.getD 0)=none/\Gp P l hR r K (({st with hp:=(o.dst.getD 0,x.2)::st.hp}:St).put o.dst x.1)
     | 2=>Y8 P o (λ s=>C8 s.hp hR/\Gp P l hR r K s) st
     | _=>Y8 P o (Gp P l hR r K) st) (Gp P l hR r K (st.put o.dst (.Dv [])))
theorem Q1{α:Type}{k:α->Prop}:∀{r:Rs α},r.all k->∃a,k a/\∀k':α->Prop,k' a->r.all k'
 | .fail,h=>h.elim
 | .ret p a,h=>⟨a,h.2,λ _ hk=>⟨h.1,hk⟩⟩
 | .split b x y,h=>by
   cases b
   . obtain ⟨a,h1,h2⟩:=Q1 (h.2 rfl);exact ⟨a,h1,λ k' hk=>⟨λ e=>(AJ e).elim,λ _=>h2 k' hk⟩⟩
   . obtain ⟨a,h1,h2⟩:=Q1 (h.1 rfl);exact ⟨a,h1,λ k' hk=>⟨λ _=>h2 k' hk,λ e=>(AJ e.symm).elim⟩⟩
theorem Hq(st:St)(l:List Oper)(g:Option (Nat×Bool))(yes no:Prop):F6 st l g yes no=match Kx st l g with
   | .yes=>yes
   | .no=>no
   | .cond b=>XD b yes no
   | .bad=>False:=by
 unfold F6 Kx;cases g with
 | none=>rfl
 | some g=>
   obtain ⟨j,want⟩:=g;simp only;cases ((l[j]?).bind (·.dst)).bind (get st.env) with
   | none=>rfl
   | some d=>cases d with
     | p q=>cases q<;>rfl
     | Dv cs=>cases cs<;>rfl
     | _=>rfl
theorem SG{st:St}{l:List Oper}{g:Option (Nat×Bool)}{yes no:Prop}(h:F6 st l g yes no):
   (yes/\∀(st':St) (y n:Prop),Kx st' l g=Kx st l g->y->F6 st' l g y n)∨(no/\∀(st':St) (y n:Prop),Kx st' l g=Kx st l g->n->F6 st' l g y n):=by
 rw[Hq] at h;cases hg:Kx st l g with
 | yes=>rw[hg] at h;exact .inl ⟨h,λ st' y n e hy=>by rw[Hq,e];exact hy⟩
 | no=>rw[hg] at h;exact .inr ⟨h,λ st' y n e hy=>by rw[Hq,e];exact hy⟩
 | bad=>rw[hg] at h;exact h.elim
 | cond b=>
   rw[hg] at h;cases b
   . exact .inr ⟨h.2 rfl,λ st' y n e hy=>by rw[Hq,e];exact ⟨λ e=>(AJ e).elim,λ _=>hy⟩⟩
   . exact .inl ⟨h.1 rfl,λ st' y n e hy=>by rw[Hq,e];exact ⟨λ _=>hy,λ e=>(AJ e.symm).elim⟩⟩
theorem DK{st st':St}{l:List Oper}{g:Option (Nat×Bool)}{yes no Awp no':Prop}(e:Kx st' l g=Kx st l g)(hy:yes->Awp)(hn:no->no')(h:F6 st l g yes no):F6 st' l g Awp no':=by
 rcases SG h with ⟨h1,h2⟩ | ⟨h1,h2⟩
 . exact h2 st' _ _ e (hy h1)
 . exact h2 st' _ _ e (hn h1)
section
variable {P:Program} {l:List Oper} {hR:Hp}
theorem Amr{st st':St}(h:MG st st')(g:Option (Nat×Bool)):Kx st' l g=Kx st l g:=by
 unfold Kx;have:get st'.env=get st.env:=funext h.env;rw[this]
theorem Mc{st st':St}{q:Nat}{op:Op}(h:∀x∈op.operands.toList,ev st' x=ev st x):I0 P st' q op=I0 P st q op:=by
 unfold I0;cases op with
 | box t x=>simp only[h x (by simp[Op.operands])]
 | buildSlice t n ps=>
   have h1:ps.toList.map (λ q=>(q.1,ev st' q.2))=ps.toList.map (λ q=>(q.1,ev st q.2)):=Ya λ x hx=>h x (by simpa [Op.operands] using hx);simp only[h1]
 | makeSlice t l m=>simp only[h l (by simp[Op.operands]),h m (by simp[Op.operands])]
 | _=>rfl
theorem LG:∀{cs:List D} {y:List Pd},F8 cs=some y->∀(h:Hp) (k:List Pd×Hp->Prop),k (y,h)->(It h cs).all k
 | [],y,hp,h,k,hk=>by simp only[F8,Al] at hp;subst hp;exact ⟨trivial,hk⟩
 | .p x::r,y,hp,h,k,hk=>by
   simp only[F8,BO] at hp;obtain ⟨z,hz,rfl⟩:=hp;exact Ct ⟨trivial,Ct (LG hz h _ ⟨trivial,hk⟩)⟩
 | .cl es::r,y,hp,h,k,hk=>by
   simp only[F8,BO] at hp;obtain ⟨z,hz,rfl⟩:=hp;exact Ct ⟨trivial,Ct (LG hz h _ ⟨trivial,hk⟩)⟩
 | .agg _::r,y,hp,h,k,hk=>by simp[F8] at hp
 | .Dv _::r,y,hp,h,k,hk=>by simp[F8] at hp
 | .cz _::r,y,hp,h,k,hk=>by simp[F8] at hp
 | .ref _ _ _ _::r,y,hp,h,k,hk=>by simp[F8] at hp
 | .ptr _ _::r,y,hp,h,k,hk=>by simp[F8] at hp
 | .pe _::r,y,hp,h,k,hk=>by simp[F8] at hp
 | .ea _ _ _ _::r,y,hp,h,k,hk=>by simp[F8] at hp
 | .fn _ _::r,y,hp,h,k,hk=>by simp[F8] at hp
 | .np::r,y,hp,h,k,hk=>by simp[F8] at hp
 | .mv _::r,y,hp,h,k,hk=>by simp[F8] at hp
 | .DI _ _::r,y,hp,h,k,hk=>by simp[F8] at hp
 | .M9 _ _ _::r,y,hp,h,k,hk=>by simp[F8] at hp
 | .nr _ _ _ _::r,y,hp,h,k,hk=>by simp[F8] at hp
 | .SW::r,y,hp,h,k,hk=>by simp[F8] at hp
 | .bad::r,y,hp,h,k,hk=>by simp[F8] at hp
theorem XC{st:St}{o:Oper}{K:St->Prop}(h:(I0 P st (o.dst.getD 0) o.op).all λ x=>get st.hp (o.dst.getD 0)=none/\K (({st with hp:=(o.dst.getD 0,x.2)::st.hp}:St).put o.dst x.1)):
   Dl o.op=none/\Ky P st o=LP P st (o.dst.getD 0) o.op/\(LP P st (o.dst.getD 0) o.op).all λ x=>K (({st with hp:=x.2}:St).put o.dst x.1):=by
 unfold I0 at h;unfold Ky Dl;split at h
 . rename_i t ho;simp only[ho,true_and];split at h
   . rename_i h1;split at h
     . rename_i h2;simp only[LP,h1,h2];exact ⟨h.2.1,h.2.2⟩
     . exact h.elim
   . exact h.elim
 . rename_i t x ho;simp only[ho,true_and];split at h
   . rename_i h2;simp only[LP,h2];exact ⟨h.2.1,h.2.2⟩
   . exact h.elim
 . rename_i t n parts ho;simp only[ho,true_and];split at h
   . rename_i h1;split at h
     . rename_i h2;split at h
       . rename_i h3;split at h
         . exact h.elim
         rename_i hnr;split at h
         . rename_i h4;simp only[LP,h1,h2,h3,if_neg hnr];exact Ct (LG h4 _ _ ⟨⟨h.1.1,h.1.2,h.2.1⟩,h.2.2⟩)
         . exact h.elim
       . exact h.elim
     . exact h.elim
   . exact h.elim
 . rename_i t l m ho;simp only[ho,true_and];split at h
   . rename_i h1 h2 h3;split at h
     . rename_i h4;split at h
       . exact h.elim
       rename_i hnr;split at h
       . rename_i h5;simp only[LP,h1,h2,h3,h4,if_neg hnr];exact Ct (LG h5 _ _ ⟨⟨h.1.1,h.2.1,h.1.2.1,h.1.2.2⟩,h.2.2⟩)
       . exact h.elim
     . exact h.elim
   . exact h.elim
 . exact h.elim
theorem C8.congr{h h2:Hp}(he:∀id,get h2 id=get h id):∀{h1:Hp},C8 h h1->C8 h2 h1
 | [],_=>trivial
 | (id,o)::r,hl=>⟨by rw[he];exact hl.1,C8.congr he hl.2⟩
theorem Il{K:St->Prop}(hK:Tf K):∀(r:List (Nat×Nat)),Tf (Gp P l hR r K)
 | []=>hK
 | (i,kd)::r=>by
   intro st st' he h;have ih:=Il hK r;simp only[Gp] at h ⊢;split at h
   . exact h.elim
   . rename_i o ho;(try simp only[ho]);refine DK (Amr he _) (λ hy=>?_) (λ hn=>ih _ _ (he.put _ _) hn) h;split at hy
     . rw[Of (st:={st with hp:=hR}) (st':={st' with hp:=hR}) (λ x _=>Yw (he.heap (x:=hR) (x':=hR) λ _=>rfl) x) rfl];exact Ca (λ x hx=>ih _ _ (he.put _ _) hx) hy
     . rw[Mc (st:=st) (λ x _=>Yw he x)];refine Ca (λ x hx=>⟨by rw[he.hp];exact hx.1,ih _ _ (MG.put (he.heap λ id=>?_) _ _) hx.2⟩) hy;simp only[Cw,he.hp]
     . exact Ad1 he (λ s s' hs hh=>⟨hh.1.congr hs.hp,ih _ _ hs hh.2⟩) hy
     . exact Ad1 he ih hy
end
end Go.Am
namespace Go.Am
open Go
section
variable {P:Program} {l:List Oper} {hR:Hp}
theorem C8.hx{h:Hp}(hl:C8 h hR):HX h hR h:=by
 intro id;cases hg:get hR id with
 | none=>rfl
 | some o=>exact hl.spec id o hg
theorem Z4{o:Oper}(hv:OM o.op=true):Dl o.op=none:=by
 unfold Dl;split
 . rename_i c hc;rw[hc] at hv;split
   . rename_i f hf;simp[OM,hf] at hv
   . rfl
 . rfl
theorem Apj{env:List (Nat×D)}{n:Nat}{e h h':Hp}(hx:HX e h h'){q:Nat}{b:Builtin}(hb:b≠ .append)(W1:b≠ .copy){ts:Array TypeId}{args:List D}{k:D->Prop}(hh:(Fo P ⟨env,h,n⟩ q b ts args).all (λ x=>k x.1)):
   (Fo P ⟨env,h',n⟩ q b ts args).all (λ y=>y.2=h'/\k y.1):=by
 unfold Fo at*;split at hh
 . split at hh
   . refine Ct (Ca (λ y hy=>?_) (Adn hx (Ce hh)));exact ⟨hy.1,rfl,hy.2⟩
   . exact hh.elim
 . exact (hb rfl).elim
 . exact (W1 rfl).elim
 . exact ⟨hh.1,rfl,hh.2⟩
 . exact ⟨hh.1,rfl,hh.2⟩
 . exact hh.elim
theorem doV{env:List (Nat×D)}{n:Nat}{e h h':Hp}(hx:HX e h h'){o:Oper}(hv:OM o.op=true){k:D->Prop}(hh:(Ky P ⟨env,h,n⟩ o).all (λ x=>k x.1)):(Ky P ⟨env,h',n⟩ o).all (λ x=>x.2=h'/\k x.1):=by
 have val:∀{op:Op},((Kj P ⟨env,h,n⟩ op).bind λ d=> .ret True (d,h)).all (λ x=>k x.1)->((Kj P ⟨env,h',n⟩ op).bind λ d=> .ret True (d,h')).all (λ x=>x.2=h'/\k x.1):=λ hv=>
   Ct (Ca (λ d hd=>⟨hd.1,rfl,hd.2⟩) (Ad2 hx (Ce hv)))
 unfold Ky at*;generalize o.op=op at hv hh ⊢;cases op with
 | call c=>
   cases hc:c.callee with
   | builtin b=>
     simp only[hc] at hh ⊢;exact Apj hx (λ e=>by subst e;simp[OM,hc] at hv) (λ e=>by subst e;simp[OM,hc] at hv) hh
   | _=>simp only[hc] at hh;exact hh.elim
 | alloc _=>simp[OM] at hv
 | box _ _=>simp[OM] at hv
 | store _ _ _=>simp[OM] at hv
 | buildSlice _ _ _=>simp[OM] at hv
 | makeSlice _ _ _=>simp[OM] at hv
 | makeMap _ _=>simp[OM] at hv
 | mapUpdate _ _ _ _=>simp[OM] at hv
 | _=>exact val hh
theorem Rb{st:St}{o:Oper}{K:St->Prop}(hc:Dl o.op=none)(h:(Ky P st o).all λ x=>K (({st with hp:=x.2}:St).put o.dst x.1)):Rd P false o K st:=by
 unfold Rd;rw[hc];exact DT h
theorem eff{i kd:Nat}{r:List (Nat×Nat)}{K:St->Prop}{st:St}{o:Oper}(ho:l[i]?=some o)(hk:kd=0∨kd=1)(hv:kd=0->OM o.op=true)(h:Gp P l hR ((i,kd)::r) K st):
   ∃(e:Hp) (d:D),(e=[]∨(kd=1/\∃ao,e=[(o.dst.getD 0,ao)]))/\(∀x∈e,get st.hp x.1=none)/\Gp P l hR r K (({st with hp:=e++st.hp}:St).put o.dst d)/\
     (∀(s:St) (r':List (Nat×Nat)) (K':St->Prop),Looks l o st s->(∀x∈e,get s.hp x.1=none)->Gp P l hR r' K' (({s with hp:=e++s.hp}:St).put o.dst d)->Gp P l hR ((i,kd)::r') K' s)/\
     (∀(c:Ctx) (a:Act) (w:World) (F:Nat->Prop) (M:Nat->Mb),Rel c st a w F M->(kd=0->C8 st.hp hR)->∃a' w' F' M',Rel c (({st with hp:=e++st.hp}:St).put o.dst d) a' w' F' M'):=by
 simp only[Gp,ho] at h;rcases SG h with ⟨hy,Ho⟩ | ⟨hn,Ho⟩
 . rcases hk with rfl | rfl
   . simp only at hy;obtain ⟨x,hx,hb⟩:=Q1 hy;refine ⟨[],x.1,.inl rfl,(λ y hy=>by cases hy),hx,λ s r' K' hl _ hg=>?_,λ c a w F M hr hle=>?_⟩
     . simp only[Gp,ho];refine Ho s _ _ hl.2 ?_;(try simp only);rw[Of (st:={st with hp:=hR}) (st':={s with hp:=hR}) (λ x hx=>hl.1 x hx) rfl];exact hb _ hg
     . have h1:(Ky P ⟨st.env,hR,st.n⟩ o).all (λ y=>(λ d=>d=x.1) y.1):=hb (λ y=>y.1=x.1) rfl;have h2:=doV (k:=λ d=>d=x.1) (hle rfl).hx (hv rfl) h1;have h3:Rd P false o (λ s=>s=st.put o.dst x.1) st:=Rb (Z4 (hv rfl)) (Ca (λ y hy=>by
         obtain ⟨e1,e2⟩:=hy;rw[e1,e2]) h2)
       obtain ⟨d,v,e1,hd,_⟩:=Ag3 hr (hv rfl) h3;have:=hr.put hd o.dst;rw[e1] at this;exact ⟨_,w,F,M,this⟩
   . simp only at hy;obtain ⟨x,hx,hb⟩:=Q1 hy;refine ⟨[(o.dst.getD 0,x.2)],x.1,.inr ⟨rfl,x.2,rfl⟩,(λ y hy=>by simp only[Ay] at hy;subst hy;exact hx.1),hx.2,λ s r' K' hl hf hg=>?_,λ c a w F M hr _=>?_⟩
     . simp only[Gp,ho];refine Ho s _ _ hl.2 ?_;(try simp only);rw[Mc (st:=st) (λ x hx=>hl.1 x hx)];exact hb _ ⟨hf (o.dst.getD 0,x.2) (by simp),hg⟩
     . obtain ⟨_,_,h1⟩:=XC (K:=λ s=>s=({st with hp:=(o.dst.getD 0,x.2)::st.hp}:St).put o.dst x.1) (hb (λ y=>get st.hp (o.dst.getD 0)=none/\({st with hp:=(o.dst.getD 0,y.2)::st.hp}:St).put o.dst y.1=({st with hp:=(o.dst.getD 0,x.2)::st.hp}:St).put o.dst x.1) ⟨hx.1,rfl⟩);obtain ⟨d,h',v,w',F',M',e1,J5,_,hd,_⟩:=GB hr (o:=o) (k:=λ d h=>({st with hp:=h}:St).put o.dst d=({st with hp:=(o.dst.getD 0,x.2)::st.hp}:St).put o.dst x.1) (Iv h1);have:=J5.put hd o.dst;(try simp only at e1);rw[e1] at this;exact ⟨_,w',F',M',this⟩
 . refine ⟨[],.Dv [],.inl rfl,(λ y hy=>by cases hy),hn,λ s r' K' hl _ hg=>?_,λ c a w F M hr _=>?_⟩
   . simp only[Gp,ho];exact Ho s _ _ hl.2 hg
   . exact ⟨_,w,F,M,hr.put (.Dv [] #[] rfl (λ i d hd=>by simp at hd)) o.dst⟩
end
end Go.Am
namespace Go.Am
open Go
structure Ap(l:List Oper)(x y:Oper):Prop where
 a:∀d,x.dst=some d->d∉y.looksAt l.toArray
 b:∀d,x.dst=some d->y.dst≠some d
 c:∀d,y.dst=some d->d∉x.looksAt l.toArray
section
variable {P:Program} {l:List Oper} {hR:Hp}
theorem FW{o:Oper}{st:St}{t:Option Nat}{d:D}{h:Hp}(hn:∀q,t=some q->q∉o.looksAt l.toArray):Looks l o st (({st with hp:=h}:St).put t d):=by
 refine ⟨λ x hx=>?_,?_⟩
 . cases x with
   | tmp q=>
     simp only[ev,HG];rw[if_neg];rintro ⟨e,_⟩;refine hn q e ?_;unfold Oper.looksAt;exact BL _ (List.mem_filterMap.2 ⟨.tmp q,hx,rfl⟩)
   | _=>rfl
 . unfold Kx;cases hg:o.guard with
   | none=>rfl
   | some g=>
     obtain ⟨j,want⟩:=g;simp only;cases hj:(l[j]?).bind (·.dst) with
     | none=>rfl
     | some q=>
       have:get (({st with hp:=h}:St).put t d).env q=get st.env q:=by
         rw[HG,if_neg];rintro ⟨e,_⟩;refine hn q e ?_;unfold Oper.looksAt;refine List.mem_append_right _ ?_;rw[hg];simp[hj]
       simp only[Aa,this]
theorem Looks.trans{o:Oper}{a b c:St}(h:Looks l o a b)(h':Looks l o b c):Looks l o a c:=⟨λ x hx=>(h'.1 x hx).trans (h.1 x hx),h'.2.trans h.2⟩
theorem Looks.heap{o:Oper}{a b:St}(h:Looks l o a b)(x y:Hp):Looks l o {a with hp:=x} {b with hp:=y}:=by
 refine ⟨λ z hz=>?_,?_⟩
 . have:=h.1 z hz;cases z<;>exact this
 . exact h.2
theorem Tr{st:St}{e:Hp}{t u:Option Nat}{d x:D}(Dt:∀q,t=some q->u≠some q):
   MG ((({st with hp:=e++st.hp}:St).put t d).put u x) (({(st.put u x) with hp:=e++(st.put u x).hp}:St).put t d):=by
 have h1:MG ((({st with hp:=e++st.hp}:St).put t d).put u x) ((({st with hp:=e++st.hp}:St).put u x).put t d):=Vr Dt;refine h1.trans (MG.put ?_ _ _);refine ⟨by simp only[JI],λ q=>?_,λ id=>?_⟩
 . simp only[HG]
 . simp only[DA]
theorem Atd{K:St->Prop}(hK:Tf K){j:Nat}{oj:Oper}(hj:l[j]?=some oj)(post:List (Nat×Nat)):∀(pre:List (Nat×Nat)) {st:St},Gp P l hR (pre++(j,0)::post) K st->
   (∀x∈pre,(x.2=0∨x.2=1)/\∃oi,l[x.1]?=some oi/\(x.2=0->OM oi.op=true)/\Ap l oi oj)->
   F6 st l oj.guard ((Ky P {st with hp:=hR} oj).all λ x=>Gp P l hR (pre++post) K (st.put oj.dst x.1)) (Gp P l hR (pre++post) K (st.put oj.dst (.Dv [])))
 | [],st,h,_=>by
   simp only[Bl,Gp,hj] at h;exact h
 | (i,ki)::pre,st,h,hp=>by
   obtain ⟨hk,oi,ho,hv,Yq⟩:=hp (i,ki) (by simp);obtain ⟨e,d,he,hf,hg,Ho,_⟩:=eff ho hk hv h;have ih:=Atd hK hj post pre hg (λ x hx=>hp x (by simp[hx]));have hlk:Looks l oj st (({st with hp:=e++st.hp}:St).put oi.dst d):=FW Yq.a;have go:∀x:D,Gp P l hR (pre++post) K ((({st with hp:=e++st.hp}:St).put oi.dst d).put oj.dst x)->Gp P l hR ((i,ki)::(pre++post)) K (st.put oj.dst x):=by
     intro x hx;refine Ho _ _ _ (FW (h:=st.hp) Yq.c) (λ y hy=>by rw[DA];exact hf y hy) (Il hK _ _ _ (Tr Yq.b) hx)
   refine DK hlk.2.symm (λ hy=>?_) (λ hn=>go _ hn) ih;rw[Of (st:={st with hp:=hR}) (λ x hx=>(hlk.heap hR hR).1 x hx) rfl] at hy;exact Ca (λ x hx=>go _ hx) hy
theorem Ate{K:St->Prop}(hK:Tf K){j:Nat}{oj:Oper}(hj:l[j]?=some oj)(post:List (Nat×Nat)):∀(pre:List (Nat×Nat)) {st:St},Gp P l hR (pre++(j,1)::post) K st->
   (∀x∈pre,(x.2=0∨x.2=1)/\∃oi,l[x.1]?=some oi/\(x.2=0->OM oi.op=true)/\Ap l oi oj/\(x.2=1->oi.dst.getD 0≠oj.dst.getD 0))->
   F6 st l oj.guard ((I0 P st (oj.dst.getD 0) oj.op).all λ x=>get st.hp (oj.dst.getD 0)=none/\Gp P l hR (pre++post) K (({st with hp:=(oj.dst.getD 0,x.2)::st.hp}:St).put oj.dst x.1)) (Gp P l hR (pre++post) K (st.put oj.dst (.Dv [])))
 | [],st,h,_=>by
   simp only[Bl,Gp,hj] at h;exact h
 | (i,ki)::pre,st,h,hp=>by
   obtain ⟨hk,oi,ho,hv,Yq,Arw⟩:=hp (i,ki) (by simp);obtain ⟨e,d,he,hf,hg,Ho,_⟩:=eff ho hk hv h;have ih:=Ate hK hj post pre hg (λ x hx=>hp x (by simp[hx]));have hlk:Looks l oj st (({st with hp:=e++st.hp}:St).put oi.dst d):=FW Yq.a;have j8:∀y∈e,y.1≠oj.dst.getD 0:=by
     intro y hy;rcases he with rfl | ⟨h1,ao,rfl⟩
     . cases hy
     . simp only[Ay] at hy;subst hy;exact Arw h1
   refine DK hlk.2.symm (λ hy=>?_) (λ hn=>?_) ih
   . rw[Mc (st:=st) (λ x hx=>hlk.1 x hx)] at hy;refine Ca (λ x hx=>?_) hy;obtain ⟨h1,h2⟩:=hx;rw[DA] at h1;simp only at h1;have Ac7:get st.hp (oj.dst.getD 0)=none:=by
       rcases he with rfl | ⟨_,ao,rfl⟩
       . exact h1
       . simp only[List.singleton_append,Cw] at h1;rw[if_neg (j8 (oi.dst.getD 0,ao) (by simp))] at h1;exact h1
     refine ⟨Ac7,?_⟩;refine Ho _ _ _ ((FW (h:=(oj.dst.getD 0,x.2)::st.hp) Yq.c)) (λ y hy=>?_) ?_
     . rw[DA];simp only[Cw];rw[if_neg (λ e2=>j8 y hy e2.symm)];exact hf y hy
     . refine Il hK _ _ _ ?_ h2;have h3:=Tr (st:={st with hp:=(oj.dst.getD 0,x.2)::st.hp}) (e:=e) (d:=d) (x:=x.1) Yq.b;refine MG.trans ?_ h3;refine ⟨by simp only[JI],λ q=>by simp only[HG,JI],λ id=>?_⟩;simp only[DA];rcases he with rfl | ⟨_,ao,rfl⟩
       . rfl
       . simp only[List.singleton_append,Cw];by_cases e1:oi.dst.getD 0=id
         . by_cases e2:oj.dst.getD 0=id
           . exact (j8 (oi.dst.getD 0,ao) (by simp) (e1.trans e2.symm)).elim
           . simp[e1,e2]
         . simp[e1]
   . refine Ho _ _ _ (FW (h:=st.hp) Yq.c) (λ y hy=>by rw[DA];exact hf y hy) (Il hK _ _ _ (Tr Yq.b) hn)
end
end Go.Am
namespace Go.Am
open Go
theorem Ni:∀{cs:List D} {id:Nat},id∈DB cs->∃(i:Nat) (c:D),cs[i]?=some c/\id∈c.ids
 | [],id,h=>by simp[DB] at h
 | d::r,id,h=>by
   simp only[DB,Aw] at h;rcases h with h | h
   . exact ⟨0,d,rfl,h⟩
   . obtain ⟨i,c,h1,h2⟩:=Ni h;exact ⟨i+1,c,by simpa using h1,h2⟩
theorem DR.Aum{F:Nat->Prop}{w:World}{M:Nat->Mb}{s:Nat->Option Sg}{d:D}{v:Value}(h:DR F w M s d v):∀id∈d.ids,s id≠none:=by
 induction h with
 | p _=>intro id hi;simp[D.ids] at hi
 | agg cs vs hl _ ih=>intro id hi;obtain ⟨i,c,h1,h2⟩:=Ni hi;exact ih i c h1 id h2
 | Dv cs vs hl _ ih=>intro id hi;obtain ⟨i,c,h1,h2⟩:=Ni hi;exact ih i c h1 id h2
 | cl es a _ _=>intro id hi;simp[D.ids] at hi
 | cz es a _=>intro id hi;simp[D.ids] at hi
 | ref id off len N sz n v hs _ _ _=>intro i hi;simp only[D.ids,Ay] at hi;subst hi;rw[hs];simp
 | ptr id off hs=>intro i hi;simp only[D.ids,Ay] at hi;subst hi;rw[hs];simp
 | pe _ _ _ _ _ _ _ _ _ _=>intro id hi;simp[D.ids] at hi
 | ea id i c N sz n v hs _ _ _=>intro i hi;simp only[D.ids,Ay] at hi;subst hi;rw[hs];simp
 | fn f cap vs hl _ ih=>intro id hi;obtain ⟨i,c,h1,h2⟩:=Ni hi;exact ih i c h1 id h2
 | SW _ _=>intro id hi;simp[D.ids] at hi
 | bad _=>intro id hi;simp[D.ids] at hi
 | np=>intro id hi;simp[D.ids] at hi
 | mv id hs=>intro i hi;simp only[D.ids,Ay] at hi;subst hi;rw[hs];simp
 | DI id n sz m k v hs _ _ _=>intro i hi;simp only[D.ids,Ay] at hi;subst hi;rw[hs];simp
 | M9 id i n sz m k b hs _ _ _=>intro i hi;simp only[D.ids,Ay] at hi;subst hi;rw[hs];simp
 | nr id i n q sz m k v hs _ _ _=>intro i hi;simp only[D.ids,Ay] at hi;subst hi;rw[hs];simp
section
variable {P:Program} {l:List Oper} {hR:Hp}
theorem Ad9{h:Hp}{id:Nat}:sg h id≠none->get h id≠none:=by
 intro hs hg;exact hs (by simp[sg,hg])
theorem Rel.nod{c:Ctx}{st:St}{a:Act}{w:World}{F:Nat->Prop}{M:Nat->Mb}(hr:Rel c st a w F M):I1 st.hp/\∀x,GN st.hp (ev st x):=by
 refine ⟨λ id o ho i hi=>?_,λ x id hi=>Ad9 ((Co hr x).Aum id hi)⟩;have hob:=hr.heap.obj id o ho;cases o with
 | box cs ty=>
   obtain ⟨_,row,t,_,_,hd⟩:=hob;obtain ⟨j,c,h1,h2⟩:=Ni (cs:=cs) hi;exact Ad9 ((hd.1 j c h1).1.Aum i h2)
 | _=>simp[AO.ids] at hi
theorem C8.app{h e:Hp}(he:e=[]∨∃x,e=[x])(hf:∀x∈e,get h x.1=none):∀{h1:Hp},C8 h h1->C8 (e++h) h1
 | [],_=>trivial
 | (id,o)::r,hl=>by
   refine ⟨?_,C8.app he hf hl.2⟩;rcases he with rfl | ⟨x,rfl⟩
   . exact hl.1
   . simp only[List.singleton_append];rw[Cw,if_neg]
     . exact hl.1
     . intro e1;have:=hf x (by simp);rw[e1,hl.1] at this;cases this
theorem C8.At6{h e y:Hp}(hx:HX e y h)(hf:∀x∈e,get y x.1=none)(he:e=[]∨∃x,e=[x]){st:Hp}(hs:∀x∈e,get st x.1=none):∀{h1:Hp},C8 st h1->C8 h h1->C8 y h1
 | [],_,_=>trivial
 | (id,o)::r,h0,hl=>by
   refine ⟨?_,C8.At6 hx hf he hs h0.2 hl.2⟩;have h1:=hl.1;rw[hx] at h1;cases hg:get y id with
   | some o2=>rw[hg] at h1;exact h1
   | none=>
     rw[hg] at h1;simp only at h1;rcases he with rfl | ⟨x,rfl⟩
     . cases h1
     . rw[Cw] at h1;split at h1
       . rename_i e1;have:=hs x (by simp);rw[e1,h0.1] at this;cases this
       . cases h1
theorem HX.app{h e:Hp}(he:e=[]∨∃x,e=[x])(hf:∀x∈e,get h x.1=none):HX e h (e++h):=by
 rcases he with rfl | ⟨⟨q,o⟩,rfl⟩
 . exact HX.refl h
 . exact HX.one (hf (q,o) (by simp))
theorem HX.HH{h y e:Hp}(hx:HX e h y)(he:e=[]∨∃x,e=[x])(hf:∀x∈e,get h x.1=none)(id:Nat):get (e++h) id=get y id:=by
 rw[hx];rcases he with rfl | ⟨x,rfl⟩
 . simp only[Bl];cases get h id<;>rfl
 . simp only[List.singleton_append];rw[Cw];by_cases e1:x.1=id
   . have:=hf x (by simp);rw[e1] at this;rw[if_pos e1,this];simp[get,e1]
   . rw[if_neg e1];cases hg:get h id with
     | none=>simp[get,e1]
     | some o=>rfl
theorem Al4{K:St->Prop}(hK:Tf K){c:Ctx}{j kj:Nat}{oj:Oper}(hj:l[j]?=some oj)(hkj:kj=2∨kj=3)(hq:isQ oj.op=true)(post:List (Nat×Nat)):
   ∀(pre:List (Nat×Nat)) {st:St} {a:Act} {w:World} {F:Nat->Prop} {M:Nat->Mb},Rel c st a w F M->Gp P l hR (pre++(j,kj)::post) K st->(kj=2∨(∃x∈pre,x.2=0)->C8 st.hp hR)->
   (∀x∈pre,(x.2=0∨x.2=1)/\∃oi,l[x.1]?=some oi/\(x.2=0->OM oi.op=true)/\Ap l oi oj/\(x.2=1->oi.dst.getD 0≠oj.dst.getD 0/\oi.dst.getD 0<10000))->
   F6 st l oj.guard (Y8 P oj (λ s=>(kj=2->C8 s.hp hR)/\Gp P l hR (pre++post) K s) st) (Gp P l hR (pre++post) K (st.put oj.dst (.Dv [])))
 | [],st,a,w,F,M,hr,h,hle,_=>by
   simp only[Bl,Gp,hj] at h;refine DK rfl (λ hy=>?_) id h;rcases hkj with rfl | rfl
   . exact Hy (λ s hs=>⟨λ _=>hs.1,hs.2⟩) hy
   . exact Hy (λ s hs=>⟨λ e=>(by cases e),hs⟩) hy
 | (i,ki)::pre,st,a,w,F,M,hr,h,hle,hp=>by
   obtain ⟨hk,oi,ho,hv,Yq,Arw⟩:=hp (i,ki) (by simp);obtain ⟨e,d,he,hf,hg,Ho,Av6⟩:=eff ho hk hv h;have he':e=[]∨∃x,e=[x]:=by
     rcases he with h1 | ⟨_,ao,h1⟩
     . exact .inl h1
     . exact .inr ⟨_,h1⟩
   obtain ⟨a1,w1,F1,M1,HJ⟩:=Av6 c a w F M hr (λ e0=>hle (.inr ⟨(i,ki),by simp,e0⟩));have ih:=Al4 hK hj hkj hq post pre HJ hg (λ hh=>by
     rw[DA];refine C8.app he' hf (hle ?_);rcases hh with h1 | ⟨x,hx,hx0⟩
     . exact .inl h1
     . exact .inr ⟨x,by simp[hx],hx0⟩) (λ x hx=>hp x (by simp[hx]))
   have hlk:Looks l oj st (({st with hp:=e++st.hp}:St).put oi.dst d):=FW Yq.a;refine DK hlk.2.symm (λ hy=>?_) (λ hn=>?_) ih
   . have h1:Y8 P oj (λ s=>(kj=2->C8 s.hp hR)/\Gp P l hR (pre++post) K (s.put oi.dst d)) {st with hp:=e++st.hp}:=by
       refine NS (λ x hx=>(hlk.1 x hx).symm) (by rw[DA]) (λ y x hk=>?_) hy;refine ⟨λ e2=>by have:=hk.1 e2;simp only[DA] at this ⊢;exact this,?_⟩;refine Il hK _ _ _ ?_ hk.2;have h2:MG ((({st with hp:=y}:St).put oi.dst d).put oj.dst x) ((({st with hp:=y}:St).put oj.dst x).put oi.dst d):=Vr Yq.b;refine MG.trans ?_ h2;refine ⟨by simp only[JI],λ q=>by simp only[HG,JI],λ id=>by simp only[DA]⟩
     obtain ⟨Oz,hpr⟩:=hr.nod;have heN:∀id,get e id≠none->id<10000:=by
       intro id hid;rcases he with h1 | ⟨Pn,ao,h1⟩
       . subst h1;exact (hid rfl).elim
       . subst h1;rw[Cw] at hid;split at hid
         . rename_i e1;subst e1;exact (Arw Pn).2
         . exact (hid rfl).elim
     have h2:=Au8 (env:=st.env) (n:=st.n) (HX.app he' hf) heN Oz hq (λ x _=>hpr x) h1;refine NS (st:=st) (λ _ _=>rfl) rfl (λ y x hk=>?_) h2;obtain ⟨⟨EN,IM,Ave,VC⟩,Nl⟩:=hk;rw[DA] at IM Nl;simp only at IM Nl;have hfy:∀z∈e,get y z.1=none:=by
       intro z hz;cases hgz:get y z.1 with
       | none=>rfl
       | some o=>
         exfalso;rcases he with rfl | ⟨Pn,ao,rfl⟩
         . cases hz
         . simp only[Ay] at hz;subst hz;obtain ⟨OD,I4⟩:=Arw Pn;rcases Nl (oi.dst.getD 0) (by rw[hgz];simp) with h3 | h3 | h3
           . exact h3 (hf (oi.dst.getD 0,ao) (by simp))
           . exact OD (Ac h3)
           . exact absurd I4 (Nat.not_lt.2 h3)
     refine ⟨λ e2=>by
       rw[DA];exact C8.At6 IM hfy he' hf (hle (.inl e2)) (Ave e2),?_⟩
     refine Ho _ _ _ (FW (h:=y) Yq.c) (λ z hz=>by rw[DA];exact hfy z hz) ?_;refine Il hK _ _ _ (MG.put ?_ _ _) VC;refine ⟨rfl,λ _=>rfl,λ id=>?_⟩;simp only[DA];exact HX.HH IM he' hfy id
   . refine Ho _ _ _ (FW (h:=st.hp) Yq.c) (λ y hy=>by rw[DA];exact hf y hy) (Il hK _ _ _ (Tr Yq.b) hn)
end
end Go.Am
namespace Go.Am
open Go
def waits(o:Oper)(i:Nat):Bool:=o.after.toList.any λ e=>Region.binds .any e&&e.on==i
def WZ:Op->Bool
 | .move _ | .assign _ | .binOp _ _ _ _ _ | .unOp _ _ _ | .extract _ _=>true
 | _=>false
theorem Aij{P:Program}{env:List (Nat×D)}{n:Nat}{h h':Hp}{o:Oper}(hv:WZ o.op=true){k:D->Prop}(hh:(Ky P ⟨env,h,n⟩ o).all (λ x=>k x.1)):(Ky P ⟨env,h',n⟩ o).all (λ x=>x.2=h'/\k x.1):=by
 have val:∀{op:Op},Kj P ⟨env,h',n⟩ op=Kj P ⟨env,h,n⟩ op->((Kj P ⟨env,h,n⟩ op).bind λ d=> .ret True (d,h)).all (λ x=>k x.1)->((Kj P ⟨env,h',n⟩ op).bind λ d=> .ret True (d,h')).all (λ x=>x.2=h'/\k x.1):=λ e hv=>by
   rw[e];exact Ct (Ca (λ d hd=>⟨hd.1,rfl,hd.2⟩) (Ce hv))
 unfold Ky at*;generalize o.op=op at hv hh ⊢;cases op with
 | move _=>exact val rfl hh
 | assign _=>exact val rfl hh
 | binOp _ _ _ _ _=>exact val rfl hh
 | unOp _ _ _=>exact val rfl hh
 | extract _ _=>exact val rfl hh
 | _=>simp[WZ] at hv
def Rx(l:List Oper)(x:Nat×Nat):Prop:=(x.2=0/\∀o,l[x.1]?=some o->WZ o.op=false)∨x.2=2
theorem Atc{P:Program}{l:List Oper}{hR:Hp}{K:St->Prop}(hK:Tf K){j:Nat}{oj:Oper}(hj:l[j]?=some oj)(post:List (Nat×Nat)):∀(pre:List (Nat×Nat)) {st:St},Gp P l hR (pre++(j,4)::post) K st->
   (∀x∈pre,x.2=0/\∃oi,l[x.1]?=some oi/\OM oi.op=true/\Ap l oi oj)->
   F6 st l oj.guard (Y8 P oj (Gp P l hR (pre++post) K) st) (Gp P l hR (pre++post) K (st.put oj.dst (.Dv [])))
 | [],st,h,_=>by
   simp only[Bl,Gp,hj] at h;exact h
 | (i,ki)::pre,st,h,hp=>by
   obtain ⟨hk,oi,ho,hv,Yq⟩:=hp (i,ki) (by simp);obtain ⟨e,d,he,hf,hg,Ho,_⟩:=eff ho (.inl hk) (λ _=>hv) h;obtain rfl:e=[]:=by
     rcases he with h1 | ⟨h1,_⟩
     . exact h1
     . simp only at hk;rw[hk] at h1;cases h1
   have ih:=Atc hK hj post pre hg (λ x hx=>hp x (by simp[hx]));have hlk:Looks l oj st (({st with hp:=[]++st.hp}:St).put oi.dst d):=FW Yq.a;have go:∀(y:Hp) (x:D),Gp P l hR (pre++post) K ((({st with hp:=y}:St).put oi.dst d).put oj.dst x)->Gp P l hR ((i,ki)::(pre++post)) K (({st with hp:=y}:St).put oj.dst x):=by
     intro y x hx;refine Ho _ _ _ (FW (h:=y) Yq.c) (λ z hz=>by cases hz) (Il hK _ _ _ ?_ hx);have h2:MG ((({st with hp:=y}:St).put oi.dst d).put oj.dst x) ((({st with hp:=y}:St).put oj.dst x).put oi.dst d):=Vr Yq.b;refine h2.trans ?_;refine ⟨by simp only[JI],λ q=>by simp only[HG,JI],λ id=>by simp only[DA,Bl]⟩
   refine DK hlk.2.symm (λ hy=>?_) (λ hn=>?_) ih
   . refine NS (λ x hx=>(hlk.1 x hx).symm) (by rw[DA];rfl) (λ y x hk=>?_) hy;refine go y x (Il hK _ _ _ ?_ hk);refine ⟨by simp only[JI],λ q=>by simp only[HG,JI],λ id=>by simp only[DA]⟩
   . exact go st.hp (.Dv []) (Il hK _ _ _ ⟨by simp only[JI],λ q=>by simp only[HG,JI,Bl],λ id=>by simp only[DA,Bl]⟩ hn)
def XK(l:List Oper):Nat->Nat->Nat->Bool
 | 0,_,_=>false
 | f+1,i,j=>match l[j]? with
   | some oj=>oj.after.toList.any λ e=>Region.binds .any e&&(e.on==i||XK l f i e.on)
   | none=>false
def Sq(l:List Oper)(n:Nat)(x y:Nat×Nat):Bool:=
 match l[x.1]?,l[y.1]? with
 | some ox,some oy=>!waits ox y.1&&
   (if y.2=4 then XK l n x.1 y.1||(decide (x.2=0)&&WZ ox.op&&OM ox.op&&Oper.apart l.toArray ox oy) else if x.2<=1 then (waits oy x.1||(Oper.apart l.toArray ox oy&&(x.2 != 1||(ox.dst.getD 0 != oy.dst.getD 0&&decide (ox.dst.getD 0<10000)))))&&(!(y.2==3&&x.2==0)||XK l n x.1 y.1)
    else XK l n x.1 y.1&&!((x.2==3||x.2==4)&&(y.2==0||y.2==2)))
 | _,_=>false
def opB(l:List Oper)(x:Nat×Nat):Bool:=
 match l[x.1]? with
 | some o=>(match x.2 with
     | 0=>OM o.op
     | 1=>true
     | 2 | 3=>isQ o.op
     | 4=>true
     | _=>false)&&!waits o x.1&&o.after.toList.all λ e=>!Region.binds .any e||decide (e.on<l.length)
 | none=>false
def H6(l:List Oper)(n:Nat):List (Nat×Nat)->Bool
 | []=>true
 | x::r=>r.all (Sq l n x)&&H6 l n r
def Ar8:List Nat->Bool
 | []=>true
 | x::r=>r.all (λ y=>x != y)&&Ar8 r
theorem WK:∀{l:List Nat},Ar8 l=true->l.Nodup
 | [],_=>List.nodup_nil
 | x::r,h=>by
   simp only[Ar8,As] at h;refine BD.2 ⟨λ hm=>?_,WK h.2⟩;have:=AB.1 h.1 x hm;simp at this
def Adg(l:List Oper)(p:List (Nat×Nat)):Bool:=
 Ar8 (p.map (·.1))&&H6 l l.length p&&p.all (opB l)&&p.length==l.length&&(List.range l.length).all λ i=>p.any λ x=>x.1==i
section
variable {P:Program} {l:List Oper} {hR:Hp}
theorem Pg{n:Nat}{y:Nat×Nat}{post:List (Nat×Nat)}:∀{pre:List (Nat×Nat)},H6 l n (pre++y::post)=true->∀x∈pre,Sq l n x y=true
 | [],_,x,hx=>by cases hx
 | z::pre,h,x,hx=>by
   simp only[A6,H6,As] at h;rcases AG.1 hx with rfl | hx
   . exact AB.1 h.1 y (by simp)
   . exact Pg h.2 x hx
theorem M3{n:Nat}{y:Nat×Nat}{post:List (Nat×Nat)}:∀{pre:List (Nat×Nat)},H6 l n (pre++y::post)=true->∀x∈post,Sq l n y x=true
 | [],h,x,hx=>by
   simp only[Bl,H6,As] at h;exact AB.1 h.1 x hx
 | z::pre,h,x,hx=>by
   simp only[A6,H6,As] at h;exact M3 h.2 x hx
theorem Sp{n:Nat}{y:Nat×Nat}{post:List (Nat×Nat)}:∀{pre:List (Nat×Nat)},H6 l n (pre++y::post)=true->H6 l n (pre++post)=true
 | [],h=>by
   simp only[Bl,H6,As] at h;exact h.2
 | z::pre,h=>by
   simp only[A6,H6,As] at h ⊢;refine ⟨AB.2 λ x hx=>?_,Sp h.2⟩;refine AB.1 h.1 x ?_;rcases Aw.1 hx with h1 | h1
   . exact BL _ h1
   . exact List.mem_append_right _ (List.mem_cons_of_mem _ h1)
def Down(l:List Oper)(listed:Array Bool):Prop:=∀k ok,l[k]?=some ok->listed.getD k false=true->∀e∈ok.after,Region.binds .any e=true->listed.getD e.on false=true
theorem MI{listed:Array Bool}(hd:Down l listed):∀(f i j:Nat) (oj:Oper),l[j]?=some oj->(∀e∈oj.after,Region.binds .any e=true->listed.getD e.on false=true)->XK l f i j=true->listed.getD i false=true
 | 0,i,j,oj,_,_,h=>by simp[XK] at h
 | f+1,i,j,oj,hj,DD,h=>by
   simp only[XK,hj,AV,As,Bool.or_eq_true,beq_iff_eq] at h;obtain ⟨e,he,hb,h1⟩:=h;have hl:=DD e (by simpa using he) hb;rcases h1 with rfl | h1
   . exact hl
   . cases hk:l[e.on]? with
     | none=>cases f<;>simp[XK,hk] at h1
     | some ok=>exact MI hd f i e.on ok hk (hd e.on ok hk hl) h1
theorem Ty{o:Oper}{i:Nat}:waits o i=true↔∃e∈o.after,Region.binds .any e=true/\e.on=i:=by
 simp only[waits,AV,As,beq_iff_eq];constructor
 . rintro ⟨e,he,h1,h2⟩;exact ⟨e,by simpa using he,h1,h2⟩
 . rintro ⟨e,he,h1,h2⟩;exact ⟨e,by simpa using he,h1,h2⟩
theorem W7{listed:Array Bool}{i:Nat}(h:listed.getD i true=false):listed.getD i false=false:=by
 rw[At] at*;cases hg:listed[i]? with
 | none=>rfl
 | some b=>rw[hg] at h;exact h
structure Inv(l:List Oper)(rest:List (Nat×Nat))(listed:Array Bool):Prop where
 iff:∀k,k<l.length->(listed.getD k true=false↔∃x∈rest,x.1=k)
 sz:listed.size=l.length
 down:Down l listed
 WG:H6 l l.length rest=true
 ops:rest.all (opB l)=true
 len:∀x∈rest,x.1<l.length
theorem Awc{K:St->Prop}(hK:Tf K){c:Ctx}{Q:Exit->Act->World->Prop}(hQ:∀a w,Good c K a w->Q .normal a w):∀(fuel:Nat) {rest:List (Nat×Nat)} {listed:Array Bool} {st:St} {a:Act} {w:World} {F:Nat->Prop} {M:Nat->Mb},
   rest.length=fuel->(rest.map (·.1)).Nodup->Rel c st a w F M->Gp P l hR rest K st->((∃x∈rest,Rx l x)->C8 st.hp hR)->Inv l rest listed->wpAny P .any l.toArray Q fuel listed a w:=by
 intro fuel
 induction fuel with
 | zero=>
   intro rest listed st a w F M hlen hnd hr hg hle hi;obtain rfl:rest=[]:=AY hlen;refine ⟨?_,hQ _ _ ⟨st,F,M,hg,hr⟩⟩;refine List.eq_nil_iff_forall_not_mem.2 λ j hj=>?_;obtain ⟨h0,oj,hoj,_⟩:=mem_ready.1 hj;have Cv:j<l.length:=by have:=(Array.getElem?_eq_some_iff.1 hoj).1;simpa using this
   obtain ⟨x,hx,_⟩:=(hi.iff j Cv).1 h0;cases hx
 | succ fuel ih=>
   intro rest listed st a w F M hlen hnd hr hg hle hi;refine ⟨λ Bbo=>?_,λ j hj=>?_⟩
   . exfalso;cases rest with
     | nil=>cases hlen
     | cons x r=>
       have N9:x.1∈Region.ready .any l.toArray listed:=by
         have Cv:=hi.len x (by simp);refine mem_ready.2 ⟨(hi.iff x.1 Cv).2 ⟨x,by simp,rfl⟩,l[x.1],by simp[Cv],λ e he hb=>?_⟩;have La:opB l x=true:=AB.1 hi.ops x (by simp);have hox:l[x.1]?=some l[x.1]:=Az Cv;simp only[opB,hox,As,AB,Bool.or_eq_true,Bool.not_eq_true',Au] at La;have Ayh:=(La.2 e (by simpa using he)).resolve_left (by rw[hb];simp);cases hle:listed.getD e.on true with
         | true=>
           rw[At] at hle ⊢;have:e.on<listed.size:=by rw[hi.sz];exact Ayh
           rw[Array.getElem?_eq_getElem this] at hle ⊢;exact hle
         | false=>
           exfalso;obtain ⟨y,hy,hye⟩:=(hi.iff e.on Ayh).1 hle;have hw:waits l[x.1] y.1=true:=Ty.2 ⟨e,he,hb,hye.symm⟩;rcases AG.1 hy with rfl | hy
           . rw[hw] at La;simp at La
           . have hp:=hi.WG;simp only[H6,As] at hp;have:=AB.1 hp.1 y hy;unfold Sq at this;rw[hox] at this;split at this
             . rename_i ox oy h1 h2;cases h1;rw[hw] at this;simp at this
             . cases this
       rw[Bbo] at N9;cases N9
   . obtain ⟨h0,oj,hoj,DD⟩:=mem_ready.1 hj;have Cv:j<l.length:=by have:=(Array.getElem?_eq_some_iff.1 hoj).1;simpa using this
     have Oy:l[j]?=some oj:=by simpa using hoj
     obtain ⟨x,hx,rfl⟩:=(hi.iff j Cv).1 h0;obtain ⟨j,kj⟩:=x;obtain ⟨pre,post,rfl⟩:=List.append_of_mem hx;simp only at hoj Oy h0 DD Cv hj ⊢;have Mv:∀x∈pre,x.2<=1/\∃oi,l[x.1]?=some oi/\(x.2=0->OM oi.op=true)/\Ap l oi oj/\(x.2=1->oi.dst.getD 0≠oj.dst.getD 0/\oi.dst.getD 0<10000)/\¬(kj=3/\x.2=0):=by
       intro x hx;have hp:=Pg hi.WG x hx;have Agc:x∈pre++(j,kj)::post:=by simp[hx]
       have hxl:=hi.len x Agc;have hun:listed.getD x.1 false=false:=W7 ((hi.iff x.1 hxl).2 ⟨x,Agc,rfl⟩);have hox:l[x.1]?=some l[x.1]:=Az hxl;have La:opB l x=true:=AB.1 hi.ops x Agc;have hnt:XK l l.length x.1 j≠true:=λ ht=>by
         have:=MI hi.down _ _ _ oj Oy DD ht;rw[hun] at this;cases this
       have hnw:waits oj x.1≠true:=λ hw=>by
         obtain ⟨e,he,hb,hye⟩:=Ty.1 hw;have:=DD e he hb;rw[hye,hun] at this;cases this
       unfold Sq at hp;rw[hox,Oy] at hp;simp only[As] at hp;obtain ⟨_,hp⟩:=hp;split at hp
       . rename_i h4;simp only[Bool.or_eq_true,As,Au] at hp;rcases hp with hp | ⟨⟨⟨h1,h2⟩,h3⟩,h5⟩
         . exact (hnt hp).elim
         . obtain ⟨s1,s2,s3⟩:=Oper.apart_spec h5;exact ⟨by omega,l[x.1],hox,λ _=>h3,⟨s1,s2,s3⟩,λ h=>by omega,λ ⟨h,_⟩=>by omega⟩
       split at hp
       . rename_i Ave;simp only[As,Bool.or_eq_true] at hp;obtain ⟨hp1,KF⟩:=hp;have hp1:=hp1.resolve_left hnw;obtain ⟨s1,s2,s3⟩:=Oper.apart_spec hp1.1;refine ⟨Ave,l[x.1],hox,λ hz=>?_,⟨s1,s2,s3⟩,λ h1=>?_,λ ⟨h3,hz⟩=>?_⟩
         . simp only[opB,hox,hz,As] at La;exact La.1.1
         . have:=hp1.2.resolve_left (by simp[h1])
           simpa using this
         . exact hnt (KF.resolve_left (by simp[h3,hz]))
       . simp only[As] at hp;exact (hnt hp.1).elim
     have Qw:opB l (j,kj)=true:=AB.1 hi.ops _ (by simp);have Ay3:((pre++post).map (·.1)).Nodup/\∀x∈pre++post,x.1≠j:=by
       rw[Bg,AH] at hnd;obtain ⟨h1,h2,h3⟩:=BQ.1 hnd;obtain ⟨h4,h5⟩:=BD.1 h2;refine ⟨?_,λ x hx e=>?_⟩
       . rw[Bg];exact BQ.2 ⟨h1,h5,λ a ha b hb=>h3 a ha b (List.mem_cons_of_mem _ hb)⟩
       . rcases Aw.1 hx with h6 | h6
         . exact h3 x.1 (List.mem_map_of_mem h6) j (by simp) e
         . exact h4 (by simp only;rw[<-e];exact List.mem_map_of_mem h6)
     have UB:Inv l (pre++post) (listed.setIfInBounds j true):=by
       refine ⟨λ k hk=>?_,by simp[hi.sz],?_,Sp hi.WG,?_,λ x hx=>hi.len x (by rcases Aw.1 hx with h | h<;>simp[h])⟩
       . by_cases e:j=k
         . subst e;have:(listed.setIfInBounds j true).getD j true=true:=by
             rw[At,Array.getElem?_setIfInBounds];simp[hi.sz,Cv]
           rw[this];refine ⟨λ h=>(by cases h),λ ⟨x,hx,hxe⟩=>(Ay3.2 x hx hxe).elim⟩
         . rw[getD_set_ne true e,hi.iff k hk];constructor
           . rintro ⟨x,hx,hxe⟩;rcases Aw.1 hx with h | h
             . exact ⟨x,BL _ h,hxe⟩
             . rcases AG.1 h with rfl | h
               . exact (e hxe).elim
               . exact ⟨x,List.mem_append_right _ h,hxe⟩
           . rintro ⟨x,hx,hxe⟩;exact ⟨x,by rcases Aw.1 hx with h | h<;>simp[h],hxe⟩
       . intro k ok hk hkl e he hb;by_cases ee:j=k
         . subst ee;rw[Oy] at hk;cases hk;exact getD_set_true (DD e he hb)
         . rw[getD_set_ne false ee] at hkl;exact getD_set_true (hi.down k ok hk hkl e he hb)
       . refine AB.2 λ x hx=>AB.1 hi.ops x ?_;rcases Aw.1 hx with h | h<;>simp[h]
     have Ay8:(pre++post).length=fuel:=by simp at hlen ⊢;omega
     have next:∀{s a' w' F' M'},Rel c s a' w' F' M'->Gp P l hR (pre++post) K s->((∃x∈pre++post,Rx l x)->C8 s.hp hR)->wpAny P .any l.toArray Q fuel (listed.setIfInBounds j true) a' w':=
       λ J5 hg' Ay9=>ih Ay8 Ay3.1 J5 hg' Ay9 UB
     have IP:(∃x∈pre++post,Rx l x)->C8 st.hp hR:=λ ⟨x,hx,h2⟩=>hle ⟨x,by rcases Aw.1 hx with h | h<;>simp[h],h2⟩;have main:F6 st l oj.guard (Y8 P oj (λ s=>((∃x∈pre++post,Rx l x)->C8 s.hp hR)/\Gp P l hR (pre++post) K s) st) (Gp P l hR (pre++post) K (st.put oj.dst (.Dv []))):=by
       have two:∀x∈pre,x.2=0∨x.2=1:=λ x hx=>by have:=(Mv x hx).1;omega
       match kj,hg,hle,Mv,Qw,hi with
       | 0,hg,hle,Mv,Qw,hi=>
         have h1:=Atd hK Oy post pre hg (λ x hx=>⟨two x hx,by obtain ⟨_,oi,h1,h2,h3,_⟩:=Mv x hx;exact ⟨oi,h1,h2,h3⟩⟩);have hv:OM oj.op=true:=by simp only[opB,Oy,As] at Qw;exact Qw.1.1
         refine DK rfl (λ hy=>?_) id h1;have h2:(Ky P st oj).all (λ x=>x.2=st.hp/\Gp P l hR (pre++post) K (st.put oj.dst x.1)):=by
           by_cases hls:WZ oj.op=true
           . exact Aij (k:=λ d=>Gp P l hR (pre++post) K (st.put oj.dst d)) hls hy
           . have hl:=hle ⟨(j,0),by simp,.inl ⟨rfl,λ o ho=>by rw[Oy] at ho;cases ho;simpa using hls⟩⟩;exact doV (k:=λ d=>Gp P l hR (pre++post) K (st.put oj.dst d)) hl.hx hv hy
         exact .inl <| Rb (Z4 hv) (Ca (λ x hx=>by
           obtain ⟨e1,e2⟩:=hx;rw[e1];exact ⟨λ hh=>by rw[DA];exact IP hh,e2⟩) h2)
       | 1,hg,hle,Mv,Qw,hi=>
         have h1:=Ate hK Oy post pre hg (λ x hx=>⟨two x hx,by obtain ⟨_,oi,h1,h2,h3,h4,_⟩:=Mv x hx;exact ⟨oi,h1,h2,h3,λ e=>(h4 e).1⟩⟩);refine DK rfl (λ hy=>?_) id h1;obtain ⟨x,hx,hb⟩:=Q1 hy;obtain ⟨h2,h3,h4⟩:=XC (K:=λ s=>((∃x∈pre++post,Rx l x)->C8 s.hp hR)/\Gp P l hR (pre++post) K s) (Ca (λ y hy=>⟨hy.1,λ hh=>by
           rw[DA];exact C8.app (.inr ⟨_,rfl⟩) (λ z hz=>by simp only[Ay] at hz;subst hz;exact hy.1) (IP hh),hy.2⟩) hy)
         exact .inl <| Rb h2 (by rw[h3];exact h4)
       | 2,hg,hle,Mv,Qw,hi=>
         have hq:isQ oj.op=true:=by simp only[opB,Oy,As] at Qw;exact Qw.1.1
         have h1:=Al4 hK Oy (.inl rfl) hq post pre hr hg (λ _=>hle ⟨(j,2),by simp,.inr rfl⟩) (λ x hx=>⟨two x hx,by obtain ⟨_,oi,h1,h2,h3,h4,_⟩:=Mv x hx;exact ⟨oi,h1,h2,h3,h4⟩⟩);exact DK rfl (λ hy=>Hy (λ s hs=>⟨λ _=>hs.1 rfl,hs.2⟩) hy) id h1
       | 3,hg,hle,Mv,Qw,hi=>
         have hq:isQ oj.op=true:=by simp only[opB,Oy,As] at Qw;exact Qw.1.1
         have Oz:∀x∈pre++post,¬(x.2=0∨x.2=2):=by
           intro x hx h2;rcases Aw.1 hx with h | h
           . obtain ⟨h3,oi,_,_,_,_,h4⟩:=Mv x h;rcases h2 with h2 | h2
             . exact h4 ⟨rfl,h2⟩
             . omega
           . have hp:=M3 hi.WG x h;unfold Sq at hp;split at hp
             . rw[if_neg (by omega),if_neg (by simp)] at hp;rcases h2 with h2 | h2<;>simp[h2] at hp
             . cases hp
         have h1:=Al4 hK Oy (.inr rfl) hq post pre hr hg (λ hh=>by
           rcases hh with h | ⟨x,hx,h2⟩
           . cases h
           . exact (Oz x (BL _ hx) (.inl h2)).elim) (λ x hx=>⟨two x hx,by obtain ⟨_,oi,h1,h2,h3,h4,_⟩:=Mv x hx;exact ⟨oi,h1,h2,h3,h4⟩⟩)
         exact DK rfl (λ hy=>Hy (λ s hs=>⟨λ ⟨x,hx,h2⟩=>(Oz x hx (h2.imp And.left id)).elim,hs.2⟩) hy) id h1
       | 4,hg,hle,Mv,Qw,hi=>
         have QA:∀x∈pre,x.2=0/\∃oi,l[x.1]?=some oi/\OM oi.op=true/\Ap l oi oj/\WZ oi.op=true:=by
           intro x hx;have hp:=Pg hi.WG x hx;have Agc:x∈pre++(j,4)::post:=by simp[hx]
           have hxl:=hi.len x Agc;have hun:listed.getD x.1 false=false:=W7 ((hi.iff x.1 hxl).2 ⟨x,Agc,rfl⟩);have hox:l[x.1]?=some l[x.1]:=Az hxl;unfold Sq at hp;rw[hox,Oy] at hp;simp only[AP,As,Bool.or_eq_true,Au] at hp;rcases hp.2 with h | ⟨⟨⟨h1,h2⟩,h3⟩,h5⟩
           . have:=MI hi.down _ _ _ oj Oy DD h;rw[hun] at this;cases this
           . obtain ⟨s1,s2,s3⟩:=Oper.apart_spec h5;exact ⟨h1,l[x.1],hox,h3,⟨s1,s2,s3⟩,h2⟩
         have Oz:∀x∈pre++post,¬Rx l x:=by
           intro x hx h2;rcases Aw.1 hx with h | h
           . obtain ⟨g1,oi,g2,_,_,g3⟩:=QA x h;rcases h2 with ⟨_,h2⟩ | h2
             . have:=h2 oi g2;rw[g3] at this;cases this
             . omega
           . have hp:=M3 hi.WG x h;unfold Sq at hp;split at hp
             . rename_i ox oy e1 e2;by_cases h4:x.2=4
               . rcases h2 with ⟨h2,_⟩ | h2<;>omega
               . rw[if_neg h4,if_neg (by simp)] at hp;rcases h2 with ⟨h2,_⟩ | h2<;>simp[h2] at hp
             . cases hp
         have h1:=Atc hK Oy post pre hg (λ x hx=>by obtain ⟨g1,oi,g2,g3,g4,_⟩:=QA x hx;exact ⟨g1,oi,g2,g3,g4⟩);exact DK rfl (λ hy=>Hy (λ s hs=>⟨λ ⟨x,hx,h2⟩=>(Oz x hx h2).elim,hs⟩) hy) id h1
       | kj+5,hg,hle,Mv,Qw,hi=>simp[opB,Oy] at Qw
     unfold wpOp;rw[hoj];simp only;have Q7:=SF (ops:=l.toArray) hr main;rcases Q7 with ⟨hw,hy⟩ | ⟨hw,hn⟩
     . rw[if_pos hw];refine .inl (Oper.wp_mono (λ a' w' hgd=>?_) (Aef hr hy Q));obtain ⟨s,F',M',⟨h1,h2⟩,J5⟩:=hgd;exact next J5 h2 h1
     . rw[if_neg (by rw[hw];simp)];exact next (hr.put (.Dv [] #[] rfl (λ i d hd=>by simp at hd)) oj.dst) hn (λ hh=>by rw[DA];exact IP hh)
end
end Go.Am
namespace Go.Am
open Go
section
variable {P:Program} {l:List Oper} {hR:Hp}
theorem Om{K K':St->Prop}(hK:∀s,K s->K' s):∀(r:List (Nat×Nat)) {st:St},Gp P l hR r K st->Gp P l hR r K' st
 | [],st,h=>hK _ h
 | (i,kd)::r,st,h=>by
   simp only[Gp] at h ⊢;split at h
   . exact h.elim
   . rename_i o ho;(try simp only[ho]);refine DK rfl (λ hy=>?_) (λ hn=>Om hK r hn) h;split at hy
     . exact Ca (λ x hx=>Om hK r hx) hy
     . exact Ca (λ x hx=>⟨hx.1,Om hK r hx.2⟩) hy
     . exact Hy (λ s hs=>⟨hs.1,Om hK r hs.2⟩) hy
     . exact Hy (λ s hs=>Om hK r hs) hy
def wDg(P:Program)(o:Oper)(K:St->Prop)(st:St):Prop:=
 match Dl o.op with
 | some (f,args)=>(Hs st f args).JY (Vt P o K st) λ x=>L6 (Vt P o K st) P x.2.2 x.1 x.2.1 (o.dst.getD 0) λ d h'=>K (({st with hp:=h'}:St).put o.dst d)
 | none=>(Ky P st o).all λ x=>K (({st with hp:=x.2}:St).put o.dst x.1)
theorem J0{α:Type}{S T:Prop}{k k':α->Prop}(hk:∀x,k x->k' x∨T)(hS:S->T):∀{r:Rs α},r.JY S k->r.all k'∨T
 | .fail,h=> .inr (hS h)
 | .ret p x,h=>(hk x h.2).elim (λ h2=> .inl ⟨h.1,h2⟩) .inr
 | .split b x y,h=>by
   cases b
   . exact (J0 hk hS (h.2 rfl)).elim (λ h2=> .inl ⟨λ e=>(AJ e).elim,λ _=>h2⟩) .inr
   . exact (J0 hk hS (h.1 rfl)).elim (λ h2=> .inl ⟨λ _=>h2,λ e=>(AJ e.symm).elim⟩) .inr
theorem At5{o:Oper}{K:St->Prop}{st:St}(h:wDg P o K st):Y8 P o K st:=by
 unfold wDg at h;unfold Y8 Rd;split at h
 . rename_i f args hc;(try simp only[hc]);refine (J0 (k':=λ x:FuncId×List D×Hp=>HV P x.2.2 x.1 x.2.1 (o.dst.getD 0) λ d h'=>K (({st with hp:=h'}:St).put o.dst d)) (λ x hx=>R0 hx) id h).imp (λ h2=>?_) id;exact DT (Ca (λ x hx=>XA hx) h2)
 . rename_i hc;(try simp only[hc]);exact .inl (DT h)
def Gw(P:Program)(l:List Oper)(hR:Hp):List (Nat×Nat)->(St->Prop)->St->Prop
 | [],K,st=>K st
 | (i,kd)::r,K,st=>match l[i]? with
   | none=>False
   | some o=>F6 st l o.guard (match kd with
     | 0=>(Ky P {st with hp:=hR} o).all λ x=>Gw P l hR r K (st.put o.dst x.1)
     | 1=>(I0 P st (o.dst.getD 0) o.op).all λ x=>get st.hp (o.dst.getD 0)=none/\Gw P l hR r K (({st with hp:=(o.dst.getD 0,x.2)::st.hp}:St).put o.dst x.1)
     | 2=>wDg P o (λ s=>C8 s.hp hR/\Gw P l hR r K s) st
     | _=>wDg P o (Gw P l hR r K) st) (Gw P l hR r K (st.put o.dst (.Dv [])))
theorem XE{K:St->Prop}:∀(r:List (Nat×Nat)) {st:St},Gw P l hR r K st->Gp P l hR r K st
 | [],st,h=>h
 | (i,kd)::r,st,h=>by
   simp only[Gw] at h;simp only[Gp];split at h
   . exact h.elim
   . rename_i o ho;(try simp only[ho]);refine DK rfl (λ hy=>?_) (λ hn=>XE r hn) h
     match kd,hy with
     | 0,hy=>exact Ca (λ x hx=>XE r hx) hy
     | 1,hy=>exact Ca (λ x hx=>⟨hx.1,XE r hx.2⟩) hy
     | 2,hy=>exact Hy (λ s hs=>⟨hs.1,XE r hs.2⟩) (At5 hy)
     | kd+3,hy=>exact Hy (λ s hs=>XE r hs) (At5 hy)
def G(P:Program)(l:List Oper)(hR:Hp)(r:List (Nat×Nat))(k:Kt)(st:St):Prop:=Gw P l hR r (k.Fv P .normal) st
theorem Afg{p:List (Nat×Nat)}(h:Adg l p=true):(p.map (·.1)).Nodup/\p.length=l.length/\Inv l p (Array.replicate l.length false):=by
 simp only[Adg,As,beq_iff_eq] at h;obtain ⟨⟨⟨⟨h0,h1⟩,h2⟩,h3⟩,h4⟩:=h;have hlen:∀x∈p,x.1<l.length:=by
   intro x hx;have:=AB.1 h2 x hx;unfold opB at this;split at this
   . rename_i o ho;exact (Ao.1 ho).1
   . cases this
 have IP:List.range l.length ⊆ p.map (·.1):=by
   intro i hi;have:=AB.1 h4 i hi;obtain ⟨x,hx,hxi⟩:=AV.1 this;exact List.mem_map.2 ⟨x,hx,by simpa using hxi⟩
 have hnd:=WK h0;refine ⟨hnd,h3,⟨λ k hk=>?_,by simp,λ k ok hk hl=>?_,h1,h2,hlen⟩⟩
 . rw[At,Array.getElem?_replicate,if_pos hk];refine ⟨λ _=>?_,λ _=>rfl⟩;obtain ⟨x,hx,hxi⟩:=AU.1 (IP (List.mem_range.2 hk));exact ⟨x,hx,hxi⟩
 . exfalso;rw[At,Array.getElem?_replicate] at hl;split at hl<;>simp at hl
theorem Dp{id:Nat}{p:List (Nat×Nat)}{k:Kt}{st:St}(hR:Hp)(hm:P.follows .mixedOrders=true)(hB:Adg l p=true)(hle:C8 st.hp hR)(h:G P l hR p k st):X P (.region id l.toArray true) k st:=by
 refine .inr ⟨rfl,λ c a w F M hr=>?_⟩;obtain ⟨hnd,hl,hi⟩:=Afg hB;refine wp_region_any hm ?_;have HM:Rel c st a {w with drawn:=w.drawn+1} F M:=hr.drew;have:=Awc (P:=P) (l:=l) (hR:=hR) (Tf.of (k.Fv P .normal)) (c:=c) (Q:=QC c (k.Fv P)) (λ a w ⟨s,F,M,⟨s',he,hk⟩,hr⟩=>⟨s',F,M,hk,hr.eqv he⟩) l.length hl hnd HM
   (Om (λ s hs=>⟨s,MG.refl s,hs⟩) p (XE p h)) (λ _=>hle) hi
 simpa using this
end
def Hd(kd:Nat)(h hR:Hp):Prop:=match kd with
 | 2=>C8 h hR
 | _=>True
theorem Aw9(h hR:Hp):Hd 2 h hR=C8 h hR:=nd rfl
theorem Aq5(h hR:Hp):Hd 3 h hR=True:=nd rfl
def Gf(P:Program)(l:List Oper)(hR:Hp)(r:List (Nat×Nat))(k:Kt)(o:Oper)(st:St)(x:Rs (D×Hp)):Prop:=x.all λ x=>G P l hR r k (st.put o.dst x.1)
def Ga(P:Program)(l:List Oper)(hR:Hp)(r:List (Nat×Nat))(k:Kt)(o:Oper)(st:St)(x:Rs (D×AO)):Prop:=
 x.all λ x=>get st.hp (o.dst.getD 0)=none/\G P l hR r k (({st with hp:=(o.dst.getD 0,x.2)::st.hp}:St).put o.dst x.1)
def Gs(P:Program)(l:List Oper)(hR:Hp)(r:List (Nat×Nat))(k:Kt)(kd:Nat)(o:Oper)(st:St)(x:Rs (D×Hp)):Prop:=
 x.all λ x=>Hd kd x.2 hR/\G P l hR r k (({st with hp:=x.2}:St).put o.dst x.1)
def Bq(P:Program)(l:List Oper)(hR:Hp)(r:List (Nat×Nat))(k:Kt)(kd:Nat)(o:Oper)(st:St):Prop:=Vt P o (λ s=>Hd kd s.hp hR/\G P l hR r k s) st
def Gc(P:Program)(l:List Oper)(hR:Hp)(r:List (Nat×Nat))(k:Kt)(kd:Nat)(o:Oper)(st:St)(x:Rs (FuncId×List D×Hp)):Prop:=
 x.JY (Bq P l hR r k kd o st) λ x=>L6 (Bq P l hR r k kd o st) P x.2.2 x.1 x.2.1 (o.dst.getD 0) λ d h'=>Hd kd h' hR/\G P l hR r k (({st with hp:=h'}:St).put o.dst d)
def Gk(P:Program)(l:List Oper)(hR:Hp)(r:List (Nat×Nat))(k:Kt)(kd:Nat)(dst:Option Nat)(st:St)(f:FuncId)(ds:List D)(h:Hp)(T:List Nat)(S:Prop):Prop:=
 (B2 P f (Iq (idx T base) ds) (sub h (idx T base) base T) λ h' x=>fresh (dst.getD 0) h h'/\Hd kd (merge T (dst.getD 0) h h') hR/\G P l hR r k (({st with hp:=merge T (dst.getD 0) h h'}:St).put dst (x.Ek (back T (dst.getD 0)))))∨S
def Ge(P:Program)(l:List Oper)(hR:Hp)(r:List (Nat×Nat))(k:Kt)(o:Oper)(st:St):Nat->Prop
 | 0=>Gf P l hR r k o st (Ky P {st with hp:=hR} o)
 | 1=>Ga P l hR r k o st (I0 P st (o.dst.getD 0) o.op)
 | 2=>match Dl o.op with
   | some (f,args)=>Gc P l hR r k 2 o st (Hs st f args)
   | none=>Gs P l hR r k 2 o st (Ky P st o)
 | _=>match Dl o.op with
   | some (f,args)=>Gc P l hR r k 3 o st (Hs st f args)
   | none=>Gs P l hR r k 3 o st (Ky P st o)
def Gd(P:Program)(l:List Oper)(hR:Hp)(r:List (Nat×Nat))(k:Kt)(kd:Nat)(o:Oper)(st:St):Gv->Prop
 | .yes=>Ge P l hR r k o st kd
 | .no=>G P l hR r k (st.put o.dst (.Dv []))
 | .cond b=>XD b (Ge P l hR r k o st kd) (G P l hR r k (st.put o.dst (.Dv [])))
 | .bad=>False
def Gg(P:Program)(l:List Oper)(hR:Hp)(r:List (Nat×Nat))(k:Kt)(kd:Nat)(st:St):Option Oper->Prop
 | none=>False
 | some o=>Gd P l hR r k kd o st (Kx st l o.guard)
section
variable {P:Program} {l:List Oper} {hR:Hp} {r:List (Nat×Nat)} {k:Kt} {o:Oper} {st:St} {kd:Nat} {b:Bool} {dst:Option Nat}
theorem Za{f:Operand}{args:List Operand}{K:St->Prop}(hc:Dl o.op=some (f,args)):wDg P o K st=(Hs st f args).JY (Vt P o K st) λ x=>L6 (Vt P o K st) P x.2.2 x.1 x.2.1 (o.dst.getD 0) λ d h'=>K (({st with hp:=h'}:St).put o.dst d):=by
 unfold wDg;rw[hc]
theorem Y9{K:St->Prop}(hc:Dl o.op=none):wDg P o K st=(Ky P st o).all λ x=>K (({st with hp:=x.2}:St).put o.dst x.1):=by
 unfold wDg;rw[hc]
theorem Azj:G P l hR [] k st=J P k .normal st:=nd rfl
theorem Awj(i:Nat):G P l hR ((i,kd)::r) k st=Gg P l hR r k kd st l[i]?:=by
 unfold G;simp only[Gw];cases l[i]? with
 | none=>rfl
 | some o=>
   simp only[Gg];rw[Hq];have e:(match kd with
     | 0=>(Ky P {st with hp:=hR} o).all λ x=>Gw P l hR r (k.Fv P .normal) (st.put o.dst x.1)
     | 1=>(I0 P st (o.dst.getD 0) o.op).all λ x=>get st.hp (o.dst.getD 0)=none/\Gw P l hR r (k.Fv P .normal) (({st with hp:=(o.dst.getD 0,x.2)::st.hp}:St).put o.dst x.1)
     | 2=>wDg P o (λ s=>C8 s.hp hR/\Gw P l hR r (k.Fv P .normal) s) st
     | _=>wDg P o (Gw P l hR r (k.Fv P .normal)) st)=Ge P l hR r k o st kd:=by
     match kd with
     | 0=>rfl
     | 1=>rfl
     | 2=>
       simp only[Ge];cases hc:Dl o.op with
       | none=>simp only[Y9 hc,DA];rfl
       | some x=>obtain ⟨f,args⟩:=x;simp only[Za hc,Gc,Bq,Hd,DA];rfl
     | kd+3=>
       simp only[Ge];cases hc:Dl o.op with
       | none=>simp only[Y9 hc,Gs,Hd,true_and];rfl
       | some x=>obtain ⟨f,args⟩:=x;simp only[Za hc,Gc,Bq,Hd,true_and];rfl
   cases Kx st l o.guard with
   | yes=>exact e
   | no=>rfl
   | bad=>rfl
   | cond b=>exact congrArg (λ x=>XD b x (Gw P l hR r (k.Fv P .normal) (st.put o.dst (.Dv [])))) e
theorem Asu:Gg P l hR r k kd st (some o)=Gd P l hR r k kd o st (Kx st l o.guard):=nd rfl
theorem Awg:Gd P l hR r k kd o st .yes=Ge P l hR r k o st kd:=nd rfl
theorem Azi:Gd P l hR r k kd o st .no=G P l hR r k (st.put o.dst (.Dv [])):=nd rfl
theorem Asy:Gd P l hR r k kd o st (.cond true)=Ge P l hR r k o st kd:=by simp[Gd]
theorem Aqa:Gd P l hR r k kd o st (.cond false)=G P l hR r k (st.put o.dst (.Dv [])):=by simp[Gd]
theorem Asw:Ge P l hR r k o st 0=Gf P l hR r k o st (Ky P {st with hp:=hR} o):=nd rfl
theorem Awf:Ge P l hR r k o st 1=Ga P l hR r k o st (I0 P st (o.dst.getD 0) o.op):=nd rfl
theorem Awe:Ge P l hR r k o st 2=match Dl o.op with
   | some (f,args)=>Gc P l hR r k 2 o st (Hs st f args)
   | none=>Gs P l hR r k 2 o st (Ky P st o):=nd rfl
theorem Aq9:Ge P l hR r k o st 3=match Dl o.op with
   | some (f,args)=>Gc P l hR r k 3 o st (Hs st f args)
   | none=>Gs P l hR r k 3 o st (Ky P st o):=nd rfl
theorem Asx:Ge P l hR r k o st 4=match Dl o.op with
   | some (f,args)=>Gc P l hR r k 3 o st (Hs st f args)
   | none=>Gs P l hR r k 3 o st (Ky P st o):=nd rfl
theorem Awd(p:Prop)(d:D)(h:Hp):Gf P l hR r k o st (.ret p (d,h))=(p/\G P l hR r k (st.put o.dst d)):=nd rfl
theorem Asv(x y:Rs (D×Hp)):Gf P l hR r k o st (.split true x y)=Gf P l hR r k o st x:=by simp[Gf,Rs.all]
theorem Aq8(x y:Rs (D×Hp)):Gf P l hR r k o st (.split false x y)=Gf P l hR r k o st y:=by simp[Gf,Rs.all]
theorem Awi(p:Prop)(d:D)(ao:AO):Ga P l hR r k o st (.ret p (d,ao))=(p/\get st.hp (o.dst.getD 0)=none/\G P l hR r k (({st with hp:=(o.dst.getD 0,ao)::st.hp}:St).put o.dst d)):=nd rfl
theorem Awb(p:Prop)(d:D)(h:Hp):Gs P l hR r k kd o st (.ret p (d,h))=(p/\Hd kd h hR/\G P l hR r k (({st with hp:=h}:St).put o.dst d)):=nd rfl
theorem Awh(p:Prop)(f:FuncId)(ds:List D)(h:Hp):Gc P l hR r k kd o st (.ret p (f,ds,h))=
   (p/\(DY h (DB ds)).Nodup/\((DY h (DB ds)).all λ id=>(get h id).isSome)=true/\Gk P l hR r k kd o.dst st f ds h (DY h (DB ds)) (Bq P l hR r k kd o st)):=nd rfl
end
def Cc(P:Program)(s:Bool)(ops rest:List Oper)(k:Kt)(dst:Option Nat)(st:St)(h:Hp)(T:List Nat)(f:FuncId)(ds:List D)(hs:Hp)(S:Prop):Prop:=
 (B2 P f ds hs λ h' r=>fresh (dst.getD 0) h h'/\O P s ops rest k (({st with hp:=merge T (dst.getD 0) h h'}:St).put dst (r.Ek (back T (dst.getD 0)))))∨S
theorem Azm(P:Program)(s:Bool)(ops rest:List Oper)(k:Kt)(dst:Option Nat)(st:St)(f:FuncId)(ds:List D)(h:Hp)(T:List Nat)(S:Prop):
   Ck P s ops rest k dst st f ds h T S=Cc P s ops rest k dst st h T f (Iq (idx T base) ds) (sub h (idx T base) base T) S:=nd rfl
theorem Em{P:Program}{s:Bool}{ops rest:List Oper}{k:Kt}{dst:Option Nat}{st:St}{h:Hp}{T:List Nat}{f:FuncId}{ds:List D}{hs:Hp}{S:Prop}{R:Hp->D->Prop}(hc:B2 P f ds hs R)
   (hk:∀h' r,R h' r->fresh (dst.getD 0) h h'/\O P s ops rest k (({st with hp:=merge T (dst.getD 0) h h'}:St).put dst (r.Ek (back T (dst.getD 0))))):Cc P s ops rest k dst st h T f ds hs S:= .inl (hc.mono hk)
def Kc(P:Program)(f:FuncId)(ds:List D)(hs h:Hp)(T:List Nat)(q:Nat)(k:D->Hp->Prop):Prop:=B2 P f ds hs λ h' r=>fresh q h h'/\k (r.Ek (back T q)) (merge T q h h')
theorem Vq{P:Program}{f:FuncId}{ds:List D}{hs h:Hp}{T:List Nat}{q:Nat}{k:D->Hp->Prop}{R:Hp->D->Prop}(hc:B2 P f ds hs R)
   (hk:∀h' r,R h' r->fresh q h h'/\k (r.Ek (back T q)) (merge T q h h')):Kc P f ds hs h T q k:=hc.mono hk
theorem JW(P:Program)(h:Hp)(f:FuncId)(ds:List D)(q:Nat)(k:D->Hp->Prop):
   HV P h f ds q k=((DY h (DB ds)).Nodup/\((DY h (DB ds)).all λ id=>(get h id).isSome)=true/\
     Kc P f (Iq (idx (DY h (DB ds)) base) ds) (sub h (idx (DY h (DB ds)) base) base (DY h (DB ds))) h (DY h (DB ds)) q k):=nd rfl
theorem PQ{P:Program}{ops rest:List Oper}{k:Kt}{dst:Option Nat}{st:St}{h:Hp}{T:List Nat}{f:FuncId}{ds:List D}{hs:Hp}{o:Oper}{fo:Operand}{args:List Operand}{g:FuncId}{cap:List D}
   (hc:Dl o.op=some (fo,args)) (hg:ev st fo= .fn g cap) (hk:HV P st.hp g (args.map (ev st)++cap) (o.dst.getD 0) λ d h'=>O P true ops rest k (({st with hp:=h'}:St).put o.dst d)):
   Cc P true ops rest k dst st h T f ds hs (Sm P true ops rest k o st):=by
 refine .inr ⟨rfl,λ c a w F M Q hr=>?_⟩;exact Afm hr hc hg hk Q
def Gh(P:Program)(l:List Oper)(hR:Hp)(r:List (Nat×Nat))(k:Kt)(kd:Nat)(dst:Option Nat)(st:St)(h:Hp)(T:List Nat)(f:FuncId)(ds:List D)(hs:Hp)(S:Prop):Prop:=
 (B2 P f ds hs λ h' x=>fresh (dst.getD 0) h h'/\Hd kd (merge T (dst.getD 0) h h') hR/\G P l hR r k (({st with hp:=merge T (dst.getD 0) h h'}:St).put dst (x.Ek (back T (dst.getD 0)))))∨S
theorem Azh(P:Program)(l:List Oper)(hR:Hp)(r:List (Nat×Nat))(k:Kt)(kd:Nat)(dst:Option Nat)(st:St)(f:FuncId)(ds:List D)(h:Hp)(T:List Nat)(S:Prop):
   Gk P l hR r k kd dst st f ds h T S=Gh P l hR r k kd dst st h T f (Iq (idx T base) ds) (sub h (idx T base) base T) S:=nd rfl
theorem Aq7{P:Program}{l:List Oper}{hR:Hp}{r:List (Nat×Nat)}{k:Kt}{kd:Nat}{dst:Option Nat}{st:St}{h:Hp}{T:List Nat}{f:FuncId}{ds:List D}{hs:Hp}{S:Prop}{R:Hp->D->Prop}(hc:B2 P f ds hs R)
   (hk:∀h' x,R h' x->fresh (dst.getD 0) h h'/\Hd kd (merge T (dst.getD 0) h h') hR/\G P l hR r k (({st with hp:=merge T (dst.getD 0) h h'}:St).put dst (x.Ek (back T (dst.getD 0))))):Gh P l hR r k kd dst st h T f ds hs S:= .inl (hc.mono hk)
theorem Azn{P:Program}{l:List Oper}{hR:Hp}{r:List (Nat×Nat)}{k:Kt}{kd:Nat}{o:Oper}{st:St}{fo:Operand}{args:List Operand}{g:FuncId}{cap ds:List D}{R:Hp->D->Prop}
   (ho:Dl o.op=some (fo,args)) (hg:ev st fo= .fn g cap) (hc:B2 P g ds [] R) (hb:GF st.hp (args.map (ev st)++cap) ds)
   (hk:∀h x,R h x->h=[]/\x.flat=true/\Hd kd st.hp hR/\G P l hR r k (st.put o.dst x)):Bq P l hR r k kd o st:=
 ⟨fo,args,g,cap,ds,ho,hg,hb,hc.mono λ h x hx=>by
   obtain ⟨h1,h2,h3,h4⟩:=hk h x hx;exact ⟨h1,by rw[DA];exact h3,by rw[TH h2];exact h4⟩⟩
theorem J1{P:Program}{l:List Oper}{hR:Hp}{r:List (Nat×Nat)}{k:Kt}{kd:Nat}{o:Oper}{st:St}{fo:Operand}{args:List Operand}{g:FuncId}{cap ds:List D}{R:Hp->D->Prop}{dst:Option Nat}{h:Hp}{T:List Nat}{f':FuncId}{r8:List D}{hs:Hp}{st':St}
   (ho:Dl o.op=some (fo,args)) (hg:ev st fo= .fn g cap) (hc:B2 P g ds [] R) (hb:GF st.hp (args.map (ev st)++cap) ds)
   (hk:∀h x,R h x->h=[]/\x.flat=true/\Hd kd st.hp hR/\G P l hR r k (st.put o.dst x)):Gh P l hR r k kd dst st' h T f' r8 hs (Bq P l hR r k kd o st):= .inr (Azn ho hg hc hb hk)
theorem Aw4{P:Program}{ops rest:List Oper}{k:Kt}{st:St}{o:Oper}{fo:Operand}{args:List Operand}{g:FuncId}{cap ds:List D}{R:Hp->D->Prop}
   (ho:Dl o.op=some (fo,args)) (hg:ev st fo= .fn g cap) (hc:B2 P g ds [] R) (hb:GF st.hp (args.map (ev st)++cap) ds)
   (hk:∀h x,R h x->h=[]/\x.flat=true/\O P true ops rest k (st.put o.dst x)):Sm P true ops rest k o st:=
 ⟨rfl,λ c a w F M Q hr=>PT hr ⟨fo,args,g,cap,ds,ho,hg,hb,hc.mono λ h x hx=>by
   obtain ⟨h1,h2,h3⟩:=hk h x hx;exact ⟨h1,by rw[TH h2];exact h3⟩⟩ Q⟩
theorem At0{P:Program}{ops rest:List Oper}{k:Kt}{dst:Option Nat}{st st':St}{h:Hp}{T:List Nat}{f':FuncId}{r8:List D}{hs:Hp}{o:Oper}{fo:Operand}{args:List Operand}{g:FuncId}{cap ds:List D}{R:Hp->D->Prop}
   (ho:Dl o.op=some (fo,args)) (hg:ev st fo= .fn g cap) (hc:B2 P g ds [] R) (hb:GF st.hp (args.map (ev st)++cap) ds)
   (hk:∀h x,R h x->h=[]/\O P true ops rest k (st.put o.dst x.HO)):Cc P true ops rest k dst st' h T f' r8 hs (Sm P true ops rest k o st):=
 .inr ⟨rfl,λ c a w F M Q hr=>PT hr ⟨fo,args,g,cap,ds,ho,hg,hb,hc.mono hk⟩ Q⟩
theorem PS{P:Program}{ops rest:List Oper}{k:Kt}{dst:Option Nat}{st st':St}{h:Hp}{T:List Nat}{f':FuncId}{r8:List D}{hs:Hp}{o:Oper}{fo:Operand}{args:List Operand}{g:FuncId}{cap ds:List D}{R:Hp->D->Prop}
   (ho:Dl o.op=some (fo,args)) (hg:ev st fo= .fn g cap) (hc:B2 P g ds [] R) (hb:GF st.hp (args.map (ev st)++cap) ds)
   (hk:∀h x,R h x->h=[]/\x.flat=true/\O P true ops rest k (st.put o.dst x)):Cc P true ops rest k dst st' h T f' r8 hs (Sm P true ops rest k o st):= .inr (Aw4 ho hg hc hb hk)
attribute [go_sem] Rt Azm Azh base AO.Ek fresh merge back Pa pick List.filter_cons List.filter_nil List.mem_cons List.not_mem_nil or_false false_or or_true true_or List.nodup_cons List.contains_cons List.contains_nil Bool.or_false Bool.or_true Bool.false_or Bool.true_or
attribute [go_sem] Aw9 Aq5 Azj Awj Asu Awg Azi Asy Aqa Asw Awf Awe Aq9 Asx Awd Asv Aq8 D.HO IH Pd.flat Awi Awb Awh I0 F8 C8
end Go.Am
end
