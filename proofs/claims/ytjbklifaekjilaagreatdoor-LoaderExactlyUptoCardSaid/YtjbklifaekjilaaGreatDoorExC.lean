/- Texts of this proof, what it rests on, merged: part C. -/
import Derived.ChangeArms
import Derived.ChangeSame
import Derived.OpenShut
import Derived.RowKit
import Derived.Test.YtjbklifaekjilaaGreatDoorExB
section
set_option linter.unusedVariables false
set_option linter.unusedSimpArgs false
namespace Go.Am
open Go Go.ChangeShapes Go.RowKit
def UE(P:Program):Nat->List Field->Option Nat
 | o,[]=>some o
 | o,f::r=>if f.offset=o then UE P (o+P.cellsOf f.type) r else none
def Ev(P:Program):Nat->TypeId->Bool
 | 0,_=>false
 | n+1,t=>match P.underlying t with
   | some .bool | some (.int _) | some .string=>true
   | some (.slice e)=>decide (0<P.cellsOf e)&&Ev P n e
   | some (.struct fs)=>decide (UE P 0 fs.toList=some (P.cellsOf t))&&fs.toList.all λ f=>Ev P n f.type
   | some (.array m e)=>decide (m*P.cellsOf e=P.cellsOf t)&&Ev P n e
   | _=>false
mutual
def ES {H:Type}:DataW H->List Pd
  | .lit (.int k n)=>[.int k n]
  | .lit (.bool b)=>[.bool b]
  | .lit (.string l)=>[.str l]
  | .nil=>[.sl []]
  | .slice elems _=>[.sl (Acz elems)]
  | .agg parts=>L8 parts
  | _=>[]
def Acz {H:Type}:List (DataW H)->List (List Pd)
  | []=>[]
  | d::r=>ES d::Acz r
def L8 {H:Type}:List (DataW H)->List Pd
  | []=>[]
  | d::r=>ES d++L8 r
end
def Arp{H:Type}(d:DataW H):D:= .p ((ES d).getD 0 (.bool false))
def PRl(F:Nat->Prop)(w:World)(xs:List Pd)(vs:List Value):Prop:=xs.length=vs.length/\∀(i:Nat) x,xs[i]?=some x->PR F w x (vs.getD i undef)
section
variable {H:Type} {enc:TypeId×Value->H} {P:Program} {w:World} {spare:Nat->Bool} {held:Bool}
theorem PRl.append{F:Nat->Prop}{xs ys:List Pd}{vs ws:List Value}(h:PRl F w xs vs)(h':PRl F w ys ws):PRl F w (xs++ys) (vs++ws):=by
 refine ⟨by simp[h.1,h'.1],λ i x hx=>?_⟩;rw[AN] at hx;rw[Ay,AN,<-h.1];split at hx
 . rename_i hl;rw[if_pos hl];simpa [List.getD] using h.2 i x hx
 . rename_i hl;rw[if_neg hl];simpa [List.getD] using h'.2 _ x hx
theorem PRl.one{F:Nat->Prop}{x:Pd}{v:Value}(h:PR F w x v):PRl F w [x] [v]:=by
 refine ⟨rfl,λ i y hy=>?_⟩;cases i with
 | zero=>simp only[AK,An] at hy;subst hy;exact h
 | succ i=>simp at hy
theorem Qd{F:Nat->Prop}{cs:List Value}{n:Nat}{m:Nat}(ih:∀t,Ev P m t=true->∀cs x,DataW.trod enc P w 0 spare held n t cs=some x->PRl F w (ES x.1) cs):
   ∀(fs:List Field) (xs:List (DataW H×List MemPlace)) (o tot:Nat),xs.length=fs.length->UE P o fs=some tot->cs.length=tot->(fs.all λ f=>Ev P m f.type)=true->
     (∀(i:Nat) (f:Field),fs[i]?=some f->DataW.trod enc P w 0 spare held n f.type ((cs.drop f.offset).take (P.cellsOf f.type))=xs[i]?)->PRl F w (L8 (xs.map (·.1))) (cs.drop o)
 | [],xs,o,tot,hl,hc,hcs,_,_=>by
   have:xs=[]:=AY hl;subst this;simp only[UE,An] at hc;subst hc;rw[Bx (by omega)];exact ⟨rfl,λ i x hx=>by simp[L8] at hx⟩
 | f::r,xs,o,tot,hl,hc,hcs,hp,hx=>by
   cases xs with
   | nil=>simp at hl
   | cons x xs=>
     simp only[UE] at hc;split at hc
     case isFalse=>cases hc
     rename_i ho;simp only[List.all_cons,As] at hp;have h0:=hx 0 f rfl;simp only[AK] at h0;have h1:=ih f.type hp.1 _ _ h0;have h2:=Qd ih r xs (o+P.cellsOf f.type) tot (by simpa using hl) hc hcs hp.2 (λ i g hg=>by simpa using hx (i+1) g (by simpa using hg));have e:cs.drop o=(cs.drop f.offset).take (P.cellsOf f.type)++cs.drop (o+P.cellsOf f.type):=by
       rw[ho,<-List.drop_drop,List.take_append_drop]
     rw[e];simp only[AH,L8];exact h1.append h2
theorem Sd{F:Nat->Prop}{cs:List Value}{e:TypeId}{n k:Nat}(ih:∀cs x,DataW.trod enc P w 0 spare held n e cs=some x->PRl F w (ES x.1) cs):
   ∀(xs:List (DataW H×List MemPlace)) (i0:Nat),cs.length=(i0+xs.length)*k->(∀i,i<xs.length->DataW.trod enc P w 0 spare held n e ((cs.drop ((i0+i)*k)).take k)=xs[i]?)->
     PRl F w (L8 (xs.map (·.1))) (cs.drop (i0*k))
 | [],i0,hl,_=>by
   rw[Bx (by simp at hl;omega)];exact ⟨rfl,λ i x hx=>by simp[L8] at hx⟩
 | x::xs,i0,hl,hx=>by
   have h0:=hx 0 (by simp);simp only[BC,AK] at h0;have h1:=ih _ _ h0;have h2:=Sd ih xs (i0+1) (by rw[hl];simp only[Al];rw[show i0+(xs.length+1)=i0+1+xs.length by omega]) (λ i hi=>by
     have:=hx (i+1) (by simp only[Al];omega);rw[show i0+(i+1)=i0+1+i by omega] at this
     simpa using this)
   have e:cs.drop (i0*k)=(cs.drop (i0*k)).take k++cs.drop ((i0+1)*k):=by
     rw[Bc,Nat.one_mul,<-List.drop_drop,List.take_append_drop]
   rw[e];simp only[AH,L8];exact h1.append h2
theorem Rz{base n:Nat}{a:Addr}{cs:List Value}(h:w.cells? base a n=some cs):cs.length=n/\∀j,j<n->w.cell? (a.add j)=cs[j]?:=by
 unfold World.cells? at h;split at h
 . exact ⟨by simpa using mapM_some_length h,λ j hj=>mapM_some_get h j j (by simp[hj])⟩
 . cases h
theorem Wr(xs:List (DataW H×List MemPlace)):Acz (xs.map (·.1))=xs.map λ x=>ES x.1:=by
 induction xs with
 | nil=>rfl
 | cons x r ih=>simp[Acz,ih]
theorem k7{w:World}{a:Addr}{v:Value}(h:w.cell? a=some v):∃c t fr,w.heap[a.block]?=some (.cells c t fr)/\a.spot=none/\c[a.off]?=some v:=by
 unfold World.cell? at h;split at h
 . rename_i c t fr hb;split at h
   . cases h
   . rename_i hs;exact ⟨c,t,fr,hb,by simpa using hs,h⟩
 . cases h
theorem Asd{F:Nat->Prop}(hF:∀b,b<w.heap.size->F b):∀(m:Nat) (t:TypeId),Ev P m t=true->∀(fuel:Nat) (cs:List Value) (x:DataW H×List MemPlace),
   DataW.trod enc P w 0 spare held fuel t cs=some x->PRl F w (ES x.1) cs:=by
 intro m
 induction m with
 | zero=>intro t h;simp[Ev] at h
 | succ m ih=>
   intro t ht fuel cs x h;simp only[Ev] at ht;split at ht
   . rename_i hu;obtain ⟨b,rfl,rfl⟩:=DataW.trod_bool hu h;exact .one (.bool b)
   . rename_i k hu;obtain ⟨n,rfl,rfl,_⟩:=DataW.trod_int hu h;exact .one (.int k n)
   . rename_i hu;obtain ⟨s,rfl,rfl,_⟩:=DataW.trod_string hu h;have:=PR.str (F:=F) (w:=w) s.data.toList;exact .one (by simpa using this)
   . rename_i e hu;simp only[As,Au] at ht;obtain ⟨hk,hpe⟩:=ht;rcases DataW.trod_slice hu h with ⟨rfl,rfl⟩ | ⟨a,len,cap,elems,rest,n,rfl,rfl,rfl,hb,hl,hc,hel,Cu,_,_⟩
     . exact .one (.YJ none 0)
     . refine .one ?_;simp only[Wr];have hg:∀(i:Nat) y,elems[i]?=some y->∃cs',w.cells? 0 (a.add (i*P.cellsOf e)) (P.cellsOf e)=some cs'/\PRl F w (ES y.1) cs':=by
         intro i y hy;have hi:i<len:=by rw[<-hel];exact (Ao.1 hy).1
         have:=Cu i hi;rw[hy] at this;obtain ⟨cs',h1,h2⟩:=Option.bind_eq_some_iff.1 this;exact ⟨cs',h1,ih e hpe _ _ _ h2⟩
       have ID:∀(i:Nat) z,(elems.map λ x=>ES x.1)[i]?=some z->∃y,elems[i]?=some y/\z=ES y.1:=by
         intro i z hz;rw[AQ] at hz;cases hy:elems[i]? with
         | none=>rw[hy] at hz;cases hz
         | some y=>rw[hy] at hz;cases hz;exact ⟨y,rfl,rfl⟩
       by_cases h0:len=0
       . have:elems=[]:=AY (hel.trans h0);subst this;subst h0;exact .YJ (some a) cap
       . have h00:∃y,elems[0]?=some y:=⟨_,Az (by omega)⟩;obtain ⟨y,hy⟩:=h00;obtain ⟨cs',h1,_⟩:=hg 0 y hy;obtain ⟨hln,Om⟩:=Rz h1;have Wg:=Om 0 hk;rw[Az (by omega)] at Wg;obtain ⟨c,te,fr,hh,Aso,_⟩:=k7 Wg;obtain ⟨b,off,spot⟩:=a;simp[Addr.add] at hh Aso;subst Aso;have Df:∀(i:Nat) z (j:Nat) q,(elems.map λ x=>ES x.1)[i]?=some z->z[j]?=some q->∃v,c[off+i*P.cellsOf e+j]?=some v/\PR F w q v:=by
           intro i z j q hz hq;obtain ⟨y,hy,rfl⟩:=ID i z hz;obtain ⟨cs2,h3,h4⟩:=hg i y hy;obtain ⟨Bbd,Auu⟩:=Rz h3;have hj:j<P.cellsOf e:=by
             have:=(Ao.1 hq).1;rw[h4.1,Bbd] at this;exact this
           have h5:=Auu j hj;rw[Az (by omega)] at h5;obtain ⟨c2,te2,fr2,hh2,_,h6⟩:=k7 h5;simp only[Addr.add_lit] at hh2 h6;rw[hh] at hh2;cases hh2;refine ⟨_,h6,?_⟩;have:=h4.2 j q hq;rwa[Ay,Az (by omega)] at this
         have hlen:(elems.map λ x=>ES x.1).length=len:=by simp[hel]
         have:=PR.sl (F:=F) (w:=w) (elems.map λ x=>ES x.1) b off cap (P.cellsOf e) c te fr (hF b (Bh.1 hh).1) hh (by omega)
           (λ i z hz=>by
             obtain ⟨y,hy,rfl⟩:=ID i z hz;obtain ⟨cs2,h3,h4⟩:=hg i y hy;rw[h4.1,(Rz h3).1])
           (λ i z j q hz hq=>by obtain ⟨v,hv,_⟩:=Df i z j q hz hq;exact (Bh.1 hv).1)
           (λ i z j q hz hq=>by
             obtain ⟨v,hv,hp⟩:=Df i z j q hz hq;rw[At,hv];exact hp)
         rwa[hlen] at this
   . rename_i fs hu;simp only[As,Au] at ht;obtain ⟨xs,n,rfl,rfl,hl,hxl,Cu⟩:=DataW.trod_struct hu h;have:=Qd (F:=F) (cs:=cs) (λ t ht cs x hx=>ih t ht n cs x hx) fs.toList xs 0 _ (by simpa using hxl) ht.1 hl ht.2 (λ i f hf=>Cu i f (by simpa using hf))
     simpa [ES] using this
   . rename_i k e hu;simp only[As,Au] at ht;obtain ⟨xs,n,rfl,rfl,hl,hxl,Cu⟩:=DataW.trod_array hu h;have:=Sd (F:=F) (cs:=cs) (λ cs x hx=>ih e ht.2 n cs x hx) xs 0 (by rw[hl,hxl,Bi,ht.1]) (λ i hi=>by rw[Bi];exact Cu i (by omega))
     simpa [ES] using this
   . cases ht
end
end Go.Am
namespace Go.Am
open Go Go.ChangeShapes Go.RowKit
section
variable {H:Type} {enc:TypeId×Value->H} {P:Program} {w:World} {held:Bool}
theorem Atk{sp:Nat->Bool}:∀(m:Nat) (t:TypeId),Ev P m t=true->∀(fuel:Nat) (cs:List Value) (x:DataW H×List MemPlace),
   DataW.trod enc P w 0 (λ _=>true) held fuel t cs=some x->(∀p∈x.2,sp p.block=true)->DataW.trod enc P w 0 sp held fuel t cs=some x:=by
 intro m
 induction m with
 | zero=>intro t h;simp[Ev] at h
 | succ m ih=>
   intro t ht fuel cs x h Iq;cases fuel with
   | zero=>simp[DataW.trod] at h
   | succ n=>
   simp only[Ev] at ht;split at ht
   . rename_i hu;obtain ⟨b,rfl,rfl⟩:=DataW.trod_bool hu h;simp[DataW.trod,hu]
   . rename_i k hu;obtain ⟨j,rfl,rfl,hw⟩:=DataW.trod_int hu h;simp[DataW.trod,hu,hw]
   . rename_i hu;obtain ⟨s,rfl,rfl,hl⟩:=DataW.trod_string hu h;simp[DataW.trod,hu,hl]
   . rename_i e hu;simp only[As,Au] at ht;obtain ⟨hk,hpe⟩:=ht;unfold DataW.trod at h ⊢;rw[hu] at h ⊢;split at h;all_goals first | (simp_all;done) | skip
     rename_i e1 a len cap he;simp only[An,TypeDesc.slice.injEq] at he;subst he;simp only at h ⊢;split at h
     case isFalse=>cases h
     rename_i hb;rw[if_pos hb];simp only[Option.bind_eq_some_iff,BO,AP] at h ⊢;obtain ⟨elems,hel,rest,hre,rfl⟩:=h;have Ml:∀y∈elems++rest,∀p∈y.2,sp p.block=true:=λ y hy p hp=>Iq p (by
       simp only[Av,BU];exact .inr ⟨y,by simpa using hy,hp⟩)
     have step:∀(i:Nat) (y:DataW H×List MemPlace),y∈elems++rest->(w.cells? 0 (a.add (i*P.cellsOf e)) (P.cellsOf e)).bind (DataW.trod enc P w 0 (λ _=>true) held n e)=some y->
         (w.cells? 0 (a.add (i*P.cellsOf e)) (P.cellsOf e)).bind (DataW.trod enc P w 0 sp held n e)=some y:=by
       intro i y hy h1;obtain ⟨cs',h2,h3⟩:=Option.bind_eq_some_iff.1 h1;exact Option.bind_eq_some_iff.2 ⟨cs',h2,ih e hpe _ _ _ h3 (Ml y hy)⟩
     refine ⟨elems,mapM_carry hel (λ i y _ hy h1=>step i y (by simp[hy]) h1),rest,?_,rfl⟩;by_cases hc:cap - len=0
     . rw[hc] at hre ⊢;split
       . exact hre
       . simpa using hre
     . have Yh:rest.length=cap - len:=by simpa using mapM_some_length hre
       have Rp:sp a.block=true:=Iq (.cell a.block a.off) (by
         simp only[Av];refine .inl (MemPlace.mem_row.2 ⟨0,?_,by simp⟩);exact Nat.mul_pos (by omega) hk)
       rw[if_pos Rp];exact mapM_carry hre (λ j y _ hy h1=>step (len+j) y (by simp[hy]) h1)
   . rename_i fs hu;simp only[As,Au] at ht;unfold DataW.trod at h ⊢;rw[hu] at h ⊢;split at h;all_goals first | (simp_all;done) | skip
     rename_i fs' he;simp only[An,TypeDesc.struct.injEq] at he;subst he;(try simp only at h);split at h
     case isFalse=>cases h
     rename_i hl;rw[if_pos hl];simp only[BO] at h ⊢;obtain ⟨xs,hx,rfl⟩:=h;refine ⟨xs,mapM_carry hx (λ f y hf hy h1=>ih f.type (AB.1 ht.2 f hf) _ _ _ h1 λ p hp=>Iq p ?_),rfl⟩;simp only[BU];exact ⟨y,hy,hp⟩
   . rename_i k e hu;simp only[As,Au] at ht;unfold DataW.trod at h ⊢;rw[hu] at h ⊢;split at h;all_goals first | (simp_all;done) | skip
     rename_i k' e' he;simp only[An,TypeDesc.array.injEq] at he;obtain ⟨rfl,rfl⟩:=he;(try simp only at h);split at h
     case isFalse=>cases h
     rename_i hl;rw[if_pos hl];simp only[BO] at h ⊢;obtain ⟨xs,hx,rfl⟩:=h;refine ⟨xs,mapM_carry hx (λ i y _ hy h1=>ih _ ht.2 _ _ _ h1 λ p hp=>Iq p ?_),rfl⟩;simp only[BU];exact ⟨y,hy,hp⟩
   . cases ht
end
def Atl(P:Program)(t:TypeId):Bool:=Ev P 30 t&&match P.underlying t with
 | some (.struct _)=>false
 | some (.array _ _)=>false
 | _=>true
section
variable {H:Type} {enc:TypeId×Value->H} {P:Program} {W:World}
theorem Ai4{t:TypeId}{v:Value}{d:DataW H}{ps:List MemPlace}{sp:Nat->Bool}{M:Nat->Mb}{s:Nat->Option Sg}(ht:Atl P t=true){bs:Nat}(PZ:Value.okWide P W .any bs t v)
   (h:DataW.Trod enc P W 0 sp true t v d ps):DR (λ b=>b<W.heap.size) W M s (Arp d) v:=by
 unfold Atl at ht;simp only[As] at ht;obtain ⟨hp,hs⟩:=ht;obtain ⟨fuel,hf⟩:=h;have h1:=Asd (F:=λ b=>b<W.heap.size) (λ _ h=>h) 30 t hp _ _ _ hf;have LG:v.cells=#[v]:=by
   cases v with
   | agg cs=>
     exfalso;unfold Value.okWide Cell.okWide Cell.ok at PZ;cases hu:P.underlying t with
     | none=>rw[hu] at PZ;simp at PZ
     | some u=>rw[hu] at PZ hs;cases u<;>simp[Ev,hu] at PZ hs hp
   | _=>rfl
 rw[LG] at h1;have hl:(ES d).length=1:=h1.1;obtain ⟨x,hx⟩:=List.length_eq_one_iff.1 hl;unfold Arp;simp only[hx,AX];have:=h1.2 0 x (by simp[hx]);exact .p this
theorem Ze{W W':World}(hos:W'.os=W.os)(Rj:W'.output=W.output)(h:∀b,b<W.heap.size->W'.heap[b]?=W.heap[b]?)(may:MemPlace->Prop):W.keptBut W' may:=by
 refine ⟨hos,Rj,λ i hi=>?_⟩;rw[h i hi];split
 . rename_i h1 h2;cases h1.symm.trans h2;exact ⟨rfl,rfl,rfl,λ _ _=>rfl⟩
 . rename_i h1 h2;cases h1.symm.trans h2;exact .inr ⟨rfl,rfl⟩
 . rfl
end
end Go.Am
namespace Go.Am
open Go
def HX(e h h':Hp):Prop:=∀id,get h' id=match get h id with | some o=>some o | none=>get e id
theorem Rs.Qw{α:Type}{p:Prop}{k:α->Prop}:∀{r:Rs α},p->r.all k->(r.and p).all k
 | .fail,_,h=>h.elim
 | .ret q a,hp,h=>⟨⟨hp,h.1⟩,h.2⟩
 | .split b x y,hp,h=>⟨λ e=>Rs.Qw hp (h.1 e),λ e=>Rs.Qw hp (h.2 e)⟩
theorem Rs.CK{α β:Type}{f:α->Rs β}{k:β->Prop}:∀{r:Rs α},r.all (λ a=>(f a).all k)->(r.bind f).all k
 | .fail,h=>h.elim
 | .ret p a,h=>Rs.Qw h.1 h.2
 | .split b x y,h=>⟨λ e=>Rs.CK (h.1 e),λ e=>Rs.CK (h.2 e)⟩
section
variable {P:Program} {e h h':Hp}
theorem HX.sm(hx:HX e h h'){id:Nat}{o:AO}(hg:get h id=some o):get h' id=some o:=by rw[hx,hg]
theorem HX.nn(hx:HX e h h'){id:Nat}(hg:get h id=none)(he:get e id=none):get h' id=none:=by rw[hx,hg];exact he
theorem HX.sg(hx:HX e h h'){id:Nat}{s:Sg}(hg:sg h id=some s):sg h' id=some s:=by
 unfold Go.Am.sg at*;cases ho:get h id with
 | none=>rw[ho] at hg;cases hg
 | some o=>rw[ho] at hg;rw[hx.sm ho];exact hg
theorem HX.cur(hx:HX e h h'){id N:Nat}(hc:Abh h id N):Abh h' id N:=by
 unfold Abh at*;cases hs:Go.Am.sg h id with
 | none=>rw[hs] at hc;exact hc.elim
 | some s=>rw[hs] at hc;rw[hx.sg hs];exact hc
theorem HX.Cy(hx:HX e h h')(id:Nat)(o:AO):HX e (Cy h id o) (Cy h' id o):=by
 intro j;rw[CS,CS];by_cases ej:j=id
 . rw[if_pos ej,if_pos ej]
 . rw[if_neg ej,if_neg ej];exact hx j
theorem HX.cons(hx:HX e h h')(id:Nat)(o:AO):HX e ((id,o)::h) ((id,o)::h'):=by
 intro j;rw[Ct,Ct];by_cases ej:id=j
 . rw[if_pos ej,if_pos ej]
 . rw[if_neg ej,if_neg ej];exact hx j
theorem HX.froze(hx:HX e h h'){id:Nat}{o:AO}(hg:get h id=some o):HX e (froze h id) (froze h' id):=by
 unfold Go.Am.froze;rw[hg,hx.sm hg];cases o<;>first | exact hx.Cy _ _ | exact hx
theorem HX.refl(h:Hp):HX [] h h:=by
 intro id;cases get h id<;>rfl
theorem HX.one{q:Nat}{o:AO}(hq:get h q=none):HX [(q,o)] h ((q,o)::h):=by
 intro id;simp only[Ct];by_cases ej:q=id
 . subst ej;rw[hq];simp
 . rw[if_neg ej,if_neg ej];cases get h id<;>rfl
theorem Aki(hx:HX e h h'){t:TypeId}{d:D}{k:D->Prop}(hh:(MJ P h t d).all k):(MJ P h' t d).all k:=by
 unfold MJ at*;split at hh
 . split at hh
   . rename_i h2;simp only[hx.sm h2];exact hh
   . exact hh.elim
 . exact hh
 . split at hh
   . rename_i h2;simp only[hx.sm h2];exact hh
   . rename_i h2;simp only[hx.sm h2];exact hh
   . exact hh.elim
 . split at hh
   . rename_i h2;simp only[hx.sm h2];exact hh
   . exact hh.elim
 . exact hh.elim
theorem Vu(hx:HX e h h'){t:TypeId}{d:D}{f:Nat}{k:D->Prop}(hh:(GW P t d f h).all k):(GW P t d f h').all k:=by
 unfold GW at*;split at hh
 . split at hh
   . split at hh
     . split at hh
       . exact hh
       . exact hh
       . exact ⟨⟨hh.1.1,hx.cur hh.1.2⟩,hh.2⟩
       . exact hh.elim
     . exact hh.elim
   . exact hh.elim
 . exact hh.elim
theorem Vg(hx:HX e h h'){t:TypeId}{d i:D}{k:D->Prop}(hh:(GV P t d i h).all k):(GV P t d i h').all k:=by
 unfold GV at*;split at hh
 . split at hh
   . split at hh
     . exact hh
     . exact hh
     . split at hh
       . rename_i h2;simp only[hx.sg h2];exact hh
       . exact hh.elim
     . exact hh
     . exact hh.elim
   . exact hh.elim
 . exact hh
 . exact hh.elim
theorem Acj(hx:HX e h h'){t:TypeId}{d:D}{k:D->Prop}(hh:(Aai P h t d).all k):(Aai P h' t d).all k:=by
 unfold Aai at*;split at hh
 . split at hh
   . exact hh
   . exact hh
   . exact hh
   . exact ⟨hx.cur hh.1,hh.2⟩
   . exact hh
   . exact hh
   . exact hh
   . exact hh.elim
 . exact hh.elim
theorem Adr{env:List (Nat×D)}{n:Nat}(hx:HX e h h'){t:TypeId}{x:D}{lo hi mx:Option Operand}{k:D->Prop}(hh:(HO P ⟨env,h,n⟩ t x lo hi mx).all k):(HO P ⟨env,h',n⟩ t x lo hi mx).all k:=by
 unfold HO at*;split at hh
 . exact hh
 . split at hh
   . split at hh
     . exact hh
     . split at hh
       . rename_i h2;simp only[hx.sg h2];exact hh
       . exact hh.elim
     . exact hh.elim
   . exact hh.elim
 . exact hh.elim
theorem Aag(hx:HX e h h'){t:TypeId}{x i:D}{ok:Bool}{k:D->Prop}(hh:(LA P h t x i ok).all k):(LA P h' t x i ok).all k:=by
 unfold LA at*;split at hh
 . split at hh
   . rename_i h1;simp only[hx.sm h1];exact hh
   . exact hh.elim
 . exact hh.elim
theorem Aem(hx:HX e h h'){t:TypeId}{m i v:D}{k:Hp->Prop}(hh:(Kf P h t m i v).all k):(Kf P h' t m i v).all (λ y=>∃h1,HX e h1 y/\k h1):=by
 unfold Kf at*;split at hh
 . split at hh
   . rename_i h1;simp only[hx.sm h1];exact ⟨hh.1,_,hx.Cy _ _,hh.2⟩
   . exact hh.elim
 . exact hh.elim
theorem Abx{env:List (Nat×D)}{n:Nat}(hx:HX e h h'){op:Op}{k:D->Prop}(hh:(J7 P ⟨env,h,n⟩ op).all k):(J7 P ⟨env,h',n⟩ op).all k:=by
 unfold J7 at*;cases op<;>simp only at hh ⊢<;>first
   | exact hh
   | exact Aki hx hh
   | exact Adr hx hh
   | exact Vu hx hh
   | exact Vg hx hh
   | exact Aag hx hh
   | skip
 . have ee:∀x,ev ⟨env,h',n⟩ x=ev ⟨env,h,n⟩ x:=λ _=>rfl;simp only[ee];split at hh
   . rename_i h1;exact hh
   . rename_i h1;exact hh
   . rename_i h1;exact ⟨hx.cur hh.1,hh.2⟩
   . exact hh.elim
 . rename_i fn _ _;cases fn<;>first
     | exact hh
     | exact hh.elim
theorem Fx(hx:HX e h h'){d:D}{k:D×Hp->Prop}(hh:(SJ h d).all k):(SJ h' d).all (λ y=>∃h1,HX e h1 y.2/\k (y.1,h1)):=by
 unfold SJ at*;split at hh
 . split at hh
   . rename_i h1;simp only[hx.sm h1];exact ⟨hh.1,_,hx.froze h1,hh.2⟩
   . rename_i h1;simp only[hx.sm h1];exact ⟨hh.1,_,hx,hh.2⟩
   . exact hh.elim
 . split at hh
   . rename_i h1;simp only[hx.sm h1];exact ⟨hh.1,_,hx.Cy _ _,hh.2⟩
   . exact hh.elim
 . exact ⟨hh.1,_,hx,hh.2⟩
 . exact ⟨hh.1,_,hx,hh.2⟩
mutual
theorem Aon:∀{d:D} {h h':Hp} (_:HX e h h') {k:D×Hp->Prop} (_:(C4 h d).all k),(C4 h' d).all (λ y=>∃h1,HX e h1 y.2/\k (y.1,h1))
  | .agg cs,h,h',hx,k,hh=>by
    simp only[C4] at*;exact Rs.CK (Rs.Cg (λ y hy=>by obtain ⟨h1,IB,h2⟩:=hy;exact ⟨h2.1,h1,IB,h2.2⟩) (NU hx (Rs.all_bind hh)))
  | .Dr cs,h,h',hx,k,hh=>by
    simp only[C4] at*;exact Rs.CK (Rs.Cg (λ y hy=>by obtain ⟨h1,IB,h2⟩:=hy;exact ⟨h2.1,h1,IB,h2.2⟩) (NU hx (Rs.all_bind hh)))
  | .p _,h,h',hx,k,hh=>by simp only[C4] at*;exact Fx hx hh
  | .cl _,h,h',hx,k,hh=>by simp only[C4] at*;exact Fx hx hh
  | .cz _,h,h',hx,k,hh=>by simp only[C4] at*;exact Fx hx hh
  | .ref _ _ _ _,h,h',hx,k,hh=>by simp only[C4] at*;exact Fx hx hh
  | .ptr _ _,h,h',hx,k,hh=>by simp only[C4] at*;exact Fx hx hh
  | .pe _,h,h',hx,k,hh=>by simp only[C4] at*;exact Fx hx hh
  | .ea _ _ _ _,h,h',hx,k,hh=>by simp only[C4] at*;exact Fx hx hh
  | .fn _ _,h,h',hx,k,hh=>by simp only[C4] at*;exact Fx hx hh
  | .np,h,h',hx,k,hh=>by simp only[C4] at*;exact Fx hx hh
  | .mv _,h,h',hx,k,hh=>by simp only[C4] at*;exact Fx hx hh
  | .Dt _ _,h,h',hx,k,hh=>by simp only[C4] at*;exact Fx hx hh
  | .MG _ _ _,h,h',hx,k,hh=>by simp only[C4] at*;exact Fx hx hh
  | .nr _ _ _ _,h,h',hx,k,hh=>by simp only[C4] at*;exact Fx hx hh
  | .Sq,h,h',hx,k,hh=>by simp only[C4] at*;exact Fx hx hh
  | .bad,h,h',hx,k,hh=>by simp only[C4] at*;exact Fx hx hh
theorem NU:∀{ds:List D} {h h':Hp} (_:HX e h h') {k:List D×Hp->Prop} (_:(FV h ds).all k),(FV h' ds).all (λ y=>∃h1,HX e h1 y.2/\k (y.1,h1))
  | [],h,h',hx,k,hh=>by simp only[FV] at*;exact ⟨hh.1,_,hx,hh.2⟩
  | d::r,h,h',hx,k,hh=>by
    simp only[FV] at*;refine Rs.CK (Rs.Cg (λ y hy=>?_) (Aon hx (Rs.all_bind hh)));obtain ⟨h1,IB,h2⟩:=hy;exact Rs.CK (Rs.Cg (λ z hz=>by obtain ⟨h3,hx3,h4⟩:=hz;exact ⟨h4.1,h3,hx3,h4.2⟩) (NU IB (Rs.all_bind h2)))
end
theorem Aq3(hx:HX e h h'){d:D}{k:Pd×Hp->Prop}(hh:(Vb h d).all k):(Vb h' d).all (λ y=>∃h1,HX e h1 y.2/\k (y.1,h1)):=by
 unfold Vb at*;split at hh
 . exact ⟨hh.1,_,hx,hh.2⟩
 . exact ⟨hh.1,_,hx,hh.2⟩
 . exact ⟨hh.1,_,hx,hh.2⟩
 . split at hh
   . rename_i h1;simp only[hx.sm h1];exact ⟨hh.1,_,hx.froze h1,hh.2⟩
   . rename_i h1;simp only[hx.sm h1];exact ⟨hh.1,_,hx,hh.2⟩
   . exact hh.elim
 . split at hh
   . rename_i h1;simp only[hx.sm h1];exact ⟨hh.1,_,hx.Cy _ _,hh.2⟩
   . exact hh.elim
 . exact hh.elim
theorem Tr:∀{ds:List D} {h h':Hp} (_:HX e h h') {k:List Pd×Hp->Prop} (_:(Ik h ds).all k),(Ik h' ds).all (λ y=>∃h1,HX e h1 y.2/\k (y.1,h1))
 | [],h,h',hx,k,hh=>by simp only[Ik] at*;exact ⟨hh.1,_,hx,hh.2⟩
 | d::r,h,h',hx,k,hh=>by
   simp only[Ik] at*;refine Rs.CK (Rs.Cg (λ y hy=>?_) (Aq3 hx (Rs.all_bind hh)));obtain ⟨h1,IB,h2⟩:=hy;exact Rs.CK (Rs.Cg (λ z hz=>by obtain ⟨h3,hx3,h4⟩:=hz;exact ⟨h4.1,h3,hx3,h4.2⟩) (Tr IB (Rs.all_bind h2)))
theorem Ac2(hx:HX e h h'){d:D}{k:List (List Pd)->Prop}(hh:(S7 h d).all k):(S7 h' d).all k:=by
 unfold S7 at*;split at hh
 . exact hh
 . exact hh
 . exact hh
 . split at hh
   . rename_i h1;simp only[hx.sm h1];exact hh
   . rename_i h1;simp only[hx.sm h1];exact hh
   . exact hh.elim
 . exact hh.elim
theorem Arr(hx:HX e h h'){q:Nat}(hq:get e q=none){t t2:TypeId}{s x:D}{k:D×Hp->Prop}(hh:(UM P h q t t2 s x).all k):(UM P h' q t t2 s x).all (λ y=>∃h1,HX e h1 y.2/\k (y.1,h1)):=by
 unfold UM at*;split at hh
 case h_2=>exact hh.elim
 split at hh
 case h_2=>exact hh.elim
 refine Rs.CK (Rs.Cg (λ ys hy=>?_) (Ac2 hx (Rs.all_bind hh)));split at hy
 . obtain ⟨⟨a1,a2,a3,a4,a5,a6⟩,hk⟩:=hy;exact ⟨⟨a1,a2,a3,a4,hx.nn a5 hq,a6⟩,_,hx.cons _ _,hk⟩
 . obtain ⟨⟨a1,a2,a3,a4,a5,a6⟩,hk⟩:=hy;exact ⟨⟨a1,a2,a3,a4,hx.nn a5 hq,a6⟩,_,hx.cons _ _,hk⟩
 . obtain ⟨h0,hy⟩:=OB hy;refine VJ h0 ?_;split at hy
   . rename_i h1;simp only[hx.sm h1];exact ⟨hy.1,_,hx.Cy _ _,hy.2⟩
   . exact hy.elim
 . split at hy
   . rename_i h1;obtain ⟨⟨a1,a2,a3,a4,⟨b1,b2,b3,b4,b5,b6⟩,a5⟩,hk⟩:=hy;simp only[hx.sm h1];exact ⟨⟨a1,a2,a3,a4,⟨b1,b2,b3,b4,b5,hx.nn b6 hq⟩,a5⟩,_,(hx.Cy _ _).cons _ _,hk⟩
   . exact hy.elim
 . exact hy.elim
theorem Ao8(hx:HX e h h'){t:TypeId}{s x:D}{k:D×Hp->Prop}(hh:(Nc P h t s x).all k):(Nc P h' t s x).all (λ y=>∃h1,HX e h1 y.2/\k (y.1,h1)):=by
 unfold Nc at*;split at hh
 case h_2=>exact hh.elim
 split at hh
 case h_2=>exact hh.elim
 refine Rs.CK (Rs.Cg (λ ys hy=>?_) (Ac2 hx (Rs.all_bind hh)));split at hy
 case h_2=>exact hy.elim
 split at hy
 case h_2=>exact hy.elim
 rename_i h1;simp only[hx.sm h1];exact ⟨hy.1,_,hx.Cy _ _,hy.2⟩
theorem Xh(hx:HX e h h'){id i n:Nat}{v:D}{k:Hp->Prop}(hh:(FH h id i n v).all k):(FH h' id i n v).all (λ y=>∃h1,HX e h1 y/\k h1):=by
 unfold FH at*;split at hh
 . split at hh
   . rename_i h1 h2;simp only[hx.sm h1,hx.sm h2];exact ⟨hh.1,_,(hx.Cy _ _).Cy _ _,hh.2⟩
   . exact hh.elim
 . exact hh.elim
theorem Adp(hx:HX e h h'){t:TypeId}{a v:D}{k:Hp->Prop}(hh:(J9 P h t a v).all k):(J9 P h' t a v).all (λ y=>∃h1,HX e h1 y/\k h1):=by
 unfold J9 at*;split at hh
 case h_2=>exact hh.elim
 split at hh
 case h_2=>exact hh.elim
 split at hh
 . split at hh
   . rename_i h1;simp only[hx.sm h1];exact ⟨hh.1,_,hx.Cy _ _,hh.2⟩
   . exact hh.elim
 . refine Rs.CK (Rs.Cg (λ y hy=>?_) (Tr hx (Rs.all_bind hh)));obtain ⟨h1,IB,hy⟩:=hy;split at hy
   . rename_i h2;simp only[IB.sm h2];exact ⟨hy.1,_,IB.Cy _ _,hy.2⟩
   . exact hy.elim
 . exact Rs.Qw (Rs.Es hh).1 (Xh hx (Rs.Es hh).2)
 . exact hh.elim
end
end Go.Am
namespace Go.Am
open Go
section
variable {P:Program} {e h h':Hp}
theorem Ly{env:List (Nat×D)}{n:Nat}(hx:HX e h h'){q:Nat}(hq:get e q=none){op:Op}{k:D×Hp->Prop}(hh:(Lz P ⟨env,h,n⟩ q op).all k):
   (Lz P ⟨env,h',n⟩ q op).all (λ y=>∃h1,HX e h1 y.2/\k (y.1,h1)):=by
 have ee:∀x,ev ⟨env,h',n⟩ x=ev ⟨env,h,n⟩ x:=λ _=>rfl;have ef:ev ⟨env,h',n⟩=ev ⟨env,h,n⟩:=funext ee;unfold Lz at*;simp only[ee] at*;split at hh
 . split at hh
   . split at hh
     . exact ⟨hx.nn hh.1 hq,_,hx.cons _ _,hh.2⟩
     . exact hh.elim
   . exact hh.elim
 . split at hh
   . exact ⟨hx.nn hh.1 hq,_,hx.cons _ _,hh.2⟩
   . exact hh.elim
 . refine Rs.CK (Rs.Cg (λ y hy=>?_) (Adp hx (Rs.all_bind hh)));obtain ⟨h1,IB,hy⟩:=hy;exact ⟨hy.1,h1,IB,hy.2⟩
 . exact ⟨hx.nn hh.1 hq,_,hx.cons _ _,hh.2⟩
 . refine Rs.CK (Rs.Cg (λ y hy=>?_) (Aem hx (Rs.all_bind hh)));obtain ⟨h1,IB,hy⟩:=hy;exact ⟨hy.1,h1,IB,hy.2⟩
 . split at hh
   . split at hh
     . split at hh
       . split at hh
         . exact hh.elim
         rename_i hn;rw[if_neg hn];refine Rs.CK (Rs.Cg (λ y hy=>?_) (Tr hx (Rs.all_bind hh)));obtain ⟨h1,IB,hy⟩:=hy;exact ⟨⟨hy.1.1,hy.1.2.1,IB.nn hy.1.2.2 hq⟩,_,IB.cons _ _,hy.2⟩
       . exact hh.elim
     . exact hh.elim
   . exact hh.elim
 . split at hh
   . split at hh
     . split at hh
       . exact hh.elim
       rename_i hn;rw[if_neg hn];refine Rs.CK (Rs.Cg (λ y hy=>?_) (Rs.all_bind hh));exact ⟨⟨hy.1.1,hx.nn hy.1.2.1 hq,hy.1.2.2⟩,_,hx.cons _ _,hy.2⟩
     . exact hh.elim
   . exact hh.elim
 . exact hh.elim
theorem l5{env:List (Nat×D)}{n:Nat}(hx:HX e h h'){q:Nat}(hq:get e q=none){b:Builtin}{ts:Array TypeId}{args:List D}{k:D×Hp->Prop}(hh:(E9 P ⟨env,h,n⟩ q b ts args).all k):
   (E9 P ⟨env,h',n⟩ q b ts args).all (λ y=>∃h1,HX e h1 y.2/\k (y.1,h1)):=by
 unfold E9 at*;split at hh
 . split at hh
   . refine Rs.CK (Rs.Cg (λ y hy=>?_) (Acj hx (Rs.all_bind hh)));exact ⟨hy.1,_,hx,hy.2⟩
   . exact hh.elim
 . split at hh
   . exact Arr hx hq hh
   . exact hh.elim
 . split at hh
   . exact Ao8 hx hh
   . exact hh.elim
 . exact ⟨hh.1,_,hx,hh.2⟩
 . exact ⟨hh.1,_,hx,hh.2⟩
 . exact hh.elim
theorem Av4{env:List (Nat×D)}{n:Nat}(hx:HX e h h'){o:Oper}(hq:get e (o.dst.getD 0)=none){k:D×Hp->Prop}(hh:(Kn P ⟨env,h,n⟩ o).all k):
   (Kn P ⟨env,h',n⟩ o).all (λ y=>∃h1,HX e h1 y.2/\k (y.1,h1)):=by
 have val:∀{op:Op},((J7 P ⟨env,h,n⟩ op).bind λ d=> .ret True (d,h)).all k->((J7 P ⟨env,h',n⟩ op).bind λ d=> .ret True (d,h')).all (λ y=>∃h1,HX e h1 y.2/\k (y.1,h1)):=λ hv=>
   Rs.CK (Rs.Cg (λ d hd=>⟨hd.1,_,hx,hd.2⟩) (Abx hx (Rs.all_bind hv)))
 unfold Kn at*;split at hh
 . split at hh
   . exact l5 hx hq hh
   . exact hh.elim
 . rename_i h1;exact Ly hx hq hh
 . exact Ly hx hq hh
 . exact Ly hx hq hh
 . exact Ly hx hq hh
 . exact Ly hx hq hh
 . exact Ly hx hq hh
 . exact Ly hx hq hh
 . exact val hh
theorem Aog{env:List (Nat×D)}{n:Nat}(hx:HX e h h'){f:Operand}{args:List Operand}{k:FuncId×List D×Hp->Prop}(hh:(G9 ⟨env,h,n⟩ f args).all k):
   (G9 ⟨env,h',n⟩ f args).all (λ y=>∃h1,HX e h1 y.2.2/\k (y.1,y.2.1,h1)):=by
 have ee:∀x,ev ⟨env,h',n⟩ x=ev ⟨env,h,n⟩ x:=λ _=>rfl;have ef:ev ⟨env,h',n⟩=ev ⟨env,h,n⟩:=funext ee;unfold G9 at*;rw[ef];split at hh
 . refine Rs.CK (Rs.Cg (λ y hy=>?_) (NU hx (Rs.all_bind hh)));obtain ⟨h1,IB,hy⟩:=hy;exact ⟨hy.1,h1,IB,hy.2⟩
 . exact hh.elim
theorem GY:∀(l T:List Nat) (id:Nat),id∈T->id∈Fy T l
 | [],T,id,h=>h
 | i::r,T,id,h=>by
   simp only[Fy];split
   . exact GY r T id h
   . exact GY r _ id (BM _ h)
theorem TS(hx:HX e h h'):∀(l:List Nat),(∀id∈l,(get h id).isSome=true)->IN h' l=IN h l
 | [],_=>rfl
 | i::r,hp=>by
   obtain ⟨o,ho⟩:=Bu.1 (hp i (by simp));simp only[IN,ho,hx.sm ho,TS hx r (λ id hi=>hp id (by simp[hi]))]
theorem P7(hx:HX e h h')(he:∀id,get e id≠none->id<10000){id:Nat}(hid:base<=id):ghost h' id=ghost h id:=by
 have:get h' id=get h id:=by
   rw[hx];cases hg:get h id with
   | some o=>rfl
   | none=>
     cases he2:get e id with
     | none=>rfl
     | some o=>have:=he id (by rw[he2];simp);unfold base at hid;omega
 simp only[ghost,this]
theorem Afe(hx:HX e h h')(he:∀id,get e id≠none->id<10000):Rr h'=Rr h:=by
 simp only[Rr,P7 hx he (Ai base),P7 hx he (Nat.le_add_right base 1),P7 hx he (Nat.le_add_right base 2),P7 hx he (Nat.le_add_right base 3)]
theorem WN(hx:HX e h h')(he:∀id,get e id≠none->id<10000)(ids:List Nat)(hp:∀id∈DJ h ids,(get h id).isSome=true):DJ h' ids=DJ h ids:=by
 unfold DJ at*;simp only at hp ⊢;have h0:IN h' (Fy [] ids)=IN h (Fy [] ids):=TS hx _ λ id hi=>hp id (GY _ _ _ (GY _ _ _ (GY _ _ _ hi)));rw[h0];have h1:IN h' (Fy (Fy [] ids) (IN h (Fy [] ids)))=IN h (Fy (Fy [] ids) (IN h (Fy [] ids))):=TS hx _ λ id hi=>hp id (GY _ _ _ (GY _ _ _ hi));rw[h1,Afe hx he]
theorem u9(hx:HX e h h')(ρ:Nat->Option Nat):∀(T:List Nat) (k:Nat),(∀id∈T,(get h id).isSome=true)->sub h' ρ k T=sub h ρ k T
 | [],_,_=>rfl
 | i::r,k,hp=>by
   obtain ⟨o,ho⟩:=Bu.1 (hp i (by simp));simp only[sub,ho,hx.sm ho,u9 hx ρ r (k+1) (λ id hi=>hp id (by simp[hi]))]
theorem Zz(hx:HX e h h'){q:Nat}(hq:∀j,get e (10000*(j+1)+q)=none):∀(l:Hp),fresh q h l->fresh q h' l
 | [],_=>trivial
 | (j,_)::r,hf=>⟨hf.1.imp id λ h1=>hx.nn h1 (hq j),Zz hx hq r hf.2⟩
theorem PI(hx:HX e h h')(T:List Nat)(q:Nat):∀(l:Hp),HX e (merge T q h l) (merge T q h' l)
 | []=>hx
 | (j,o)::r=>by
   simp only[merge];split
   . exact (PI hx T q r).Cy _ _
   . exact PI hx T q r
theorem Aoi(hx:HX e h h'){f:FuncId}{ds:List D}{q:Nat}(he:∀id,get e id≠none->id<10000)(hq:∀j,get e (10000*(j+1)+q)=none){k:D->Hp->Prop}(hh:HJ P h f ds q k):
   HJ P h' f ds q (λ d y=>∃h1,HX e h1 y/\k d h1):=by
 unfold HJ at*;obtain ⟨h1,h2,h3⟩:=hh;have hp:∀id∈DJ h (Du ds),(get h id).isSome=true:=λ id hi=>AB.1 h2 id hi;rw[WN hx he _ hp];refine ⟨h1,AB.2 λ id hi=>?_,?_⟩
 . obtain ⟨o,ho⟩:=Bu.1 (hp id hi);rw[hx.sm ho];rfl
 . rw[u9 hx _ _ _ hp];exact h3.mono λ h2 r ⟨hf,hk⟩=>⟨Zz hx hq h2 hf,_,PI hx _ _ _,hk⟩
theorem Rs.Fb{α:Type}{S:Prop}{k:α->Prop}:∀{r:Rs α},r.all k->r.JO S k
 | .fail,h=>h.elim
 | .ret p a,h=>h
 | .split b x y,h=>⟨λ e=>Rs.Fb (h.1 e),λ e=>Rs.Fb (h.2 e)⟩
theorem Pa{f:FuncId}{ds:List D}{q:Nat}{k k':D->Hp->Prop}(hk:∀d y,k d y->k' d y)(hh:HJ P h f ds q k):HJ P h f ds q k':=by
 unfold HJ at*;exact ⟨hh.1,hh.2.1,hh.2.2.mono λ h2 r ⟨hf,h3⟩=>⟨hf,hk _ _ h3⟩⟩
theorem Atf{env:List (Nat×D)}{n:Nat}(hx:HX e h h'){o:Oper}(hq:∀id,get e id≠none->id<10000)(hd:get e (o.dst.getD 0)=none){K:St->Prop}(hh:QK P false o K ⟨env,h,n⟩):
   QK P false o (λ st=>∃h1,HX e h1 st.hp/\K {st with hp:=h1}) ⟨env,h',n⟩:=by
 have MQ:∀j,get e (10000*(j+1)+o.dst.getD 0)=none:=λ j=>by
   cases hg:get e (10000*(j+1)+o.dst.getD 0) with
   | none=>rfl
   | some x=>have:=hq _ (by rw[hg];simp);omega
 have key:∀(y h2:Hp) (d:D),K ((⟨env,h2,n⟩:St).put o.dst d)->K {(⟨env,y,n⟩:St).put o.dst d with hp:=h2}:=by
   intro y h2 d hk;generalize o.dst=dst at hk ⊢;cases dst with
   | none=>exact hk
   | some t=>
     simp only[St.put] at hk ⊢;split
     . rename_i ht;rw[if_pos ht] at hk;exact hk
     . rename_i ht;rw[if_neg ht] at hk;exact hk
 have Asr:∀(st:St) (t:Option Nat) (d:D),(st.put t d).hp=st.hp:=by
   intro st t d;cases t with
   | none=>rfl
   | some t=>simp only[St.put];split<;>rfl
 unfold QK at*;split at hh
 . rename_i f args ho;rcases Rs.Gl hh with hh | hh
   case inr=>exact (AJ hh.1).elim
   simp only[LP] at hh ⊢;refine Rs.Fb (Rs.Cg (λ x HH=>?_) (Aog hx hh));obtain ⟨h1,IB,hc⟩:=HH;have:=Aoi IB hq MQ hc;refine Pa (λ d y hy=>?_) this;obtain ⟨h2,HH,hk⟩:=hy;exact ⟨h2,by rw[Asr];exact HH,key _ _ _ hk⟩
 . rcases Rs.Gl hh with hh | hh
   case inr=>exact (AJ hh.1).elim
   refine Rs.Fb (Rs.Cg (λ x HH=>?_) (Av4 hx hd hh));obtain ⟨h1,IB,hk⟩:=HH;exact ⟨h1,by rw[Asr];exact IB,key _ _ _ hk⟩
end
end Go.Am
namespace Go.Am
open Go
def GF(h:Hp)(d:D):Prop:=∀id∈d.ids,get h id≠none
def Gx(h:Hp)(ds:List D):Prop:=∀id∈Du ds,get h id≠none
def IM(h:Hp):Prop:=∀id o,get h id=some o->∀i∈o.ids,get h i≠none
def L9(h h':Hp):Prop:=∀id,get h id≠none->get h' id≠none
def EU(q:Option Nat)(h h':Hp):Prop:=∀id,get h' id≠none->get h id≠none∨some id=q∨10000<=id
section
variable {P:Program} {e h h':Hp} {q:Option Nat}
theorem HX.eq(hx:HX e h h'){id:Nat}(hg:get h id≠none):get h' id=get h id:=by
 cases ho:get h id with
 | none=>exact (hg ho).elim
 | some o=>exact hx.sm ho
theorem HX.nn'(hx:HX e h h'){id:Nat}(hg:get h' id=none):get h id=none:=by
 cases ho:get h id with
 | none=>rfl
 | some o=>rw[hx.sm ho] at hg;cases hg
theorem EU.refl(q:Option Nat)(h:Hp):EU q h h:=λ _ hi=> .inl hi
theorem EU.trans{h'':Hp}(h1:EU q h h')(h2:EU q h' h''):EU q h h'':=λ id hi=>by
 rcases h2 id hi with h3 | h3
 . exact h1 id h3
 . exact .inr h3
theorem L9.refl(h:Hp):L9 h h:=λ _ hi=>hi
theorem L9.trans{h'':Hp}(h1:L9 h h')(h2:L9 h' h''):L9 h h'':=λ id hi=>h2 id (h1 id hi)
theorem EU.Cy{id:Nat}(hg:get h id≠none)(o:AO):EU q h (Cy h id o):=by
 intro j hj;rw[CS] at hj;by_cases ej:j=id
 . subst ej;exact .inl hg
 . rw[if_neg ej] at hj;exact .inl hj
theorem L9.Cy(h:Hp)(id:Nat)(o:AO):L9 h (Cy h id o):=by
 intro j hj;rw[CS];by_cases ej:j=id
 . rw[if_pos ej];simp
 . rw[if_neg ej];exact hj
theorem Wl{h:Hp}{id:Nat}(j:Nat):get (froze h id) j=match get h j with
   | some (.arr t sz es)=>if j=id then some (.M3 sz es) else some (.arr t sz es)
   | o=>o:=by
 unfold froze;split
 . rename_i t sz es hg;rw[CS];by_cases ej:j=id
   . subst ej;rw[if_pos rfl,hg];simp
   . rw[if_neg ej];cases get h j with
     | none=>rfl
     | some o=>cases o<;>simp[ej]
 . rename_i hg;cases hj:get h j with
   | none=>rfl
   | some o=>cases o with
     | arr t sz es=>
       by_cases ej:j=id
       . subst ej;exact (hg _ _ _ hj).elim
       . simp[ej]
     | _=>rfl
theorem OZ{h:Hp}{id j:Nat}:get (froze h id) j≠none↔get h j≠none:=by
 rw[Wl];cases get h j with
 | none=>simp
 | some o=>cases o<;>simp<;>split<;>simp
theorem IM.froze(hn:IM h)(id:Nat):IM (froze h id):=by
 intro j o hj i hi;rw[OZ];rw[Wl] at hj;cases hg:get h j with
 | none=>rw[hg] at hj;cases hj
 | some o2=>
   rw[hg] at hj;cases o2 with
   | arr t sz es=>
     simp only at hj;split at hj<;>(cases hj;simp[AO.ids] at hi)
   | M3 sz es=>cases hj;simp[AO.ids] at hi
   | iter l pos=>cases hj;simp[AO.ids] at hi
   | FY g cs=>cases hj;simp[AO.ids] at hi
   | Fi s=>cases hj;simp[AO.ids] at hi
   | mp l=>cases hj;simp[AO.ids] at hi
   | Dp t e sz k rows hole=>cases hj;simp[AO.ids] at hi
   | box cs ty=>cases hj;exact hn j _ hg i hi
def EK(h h':Hp):Prop:=∀id,get h' id≠none↔get h id≠none
theorem EK.refl(h:Hp):EK h h:=λ _=>Iff.rfl
theorem EK.trans{h'':Hp}(h1:EK h h')(h2:EK h' h''):EK h h'':=λ id=>(h2 id).trans (h1 id)
theorem EK.Ats(hk:EK h h'){d:D}:GF h' d↔GF h d:=⟨λ hp id hi=>(hk id).1 (hp id hi),λ hp id hi=>(hk id).2 (hp id hi)⟩
theorem EK.Ac9(hk:EK h h'){d:List D}:Gx h' d↔Gx h d:=⟨λ hp id hi=>(hk id).1 (hp id hi),λ hp id hi=>(hk id).2 (hp id hi)⟩
theorem IM.Cy(hn:IM h){id:Nat}(hg:get h id≠none){o:AO}(ho:o.ids=[]):IM (Cy h id o):=by
 intro j o2 hj i hi;rw[CS] at hj;by_cases ej:j=id
 . rw[if_pos ej] at hj;cases hj;rw[ho] at hi;cases hi
 . rw[if_neg ej] at hj;exact L9.Cy h id o i (hn j o2 hj i hi)
theorem EK.Cy{id:Nat}(hg:get h id≠none)(o:AO):EK h (Cy h id o):=by
 intro j;rw[CS];by_cases ej:j=id
 . subst ej;rw[if_pos rfl];exact ⟨λ _=>hg,λ _=>by simp⟩
 . rw[if_neg ej]
theorem Akh(hx:HX e h h'){t:TypeId}{d:D}(hd:GF h d):MJ P h' t d=MJ P h t d:=by
 unfold MJ;cases CG P t with
 | none=>rfl
 | some ti=>cases d with
   | ptr id off=>simp only[hx.eq (hd id (by simp[D.ids]))]
   | ea id i c N=>simp only[hx.eq (hd id (by simp[D.ids]))]
   | MG id i n=>simp only[hx.eq (hd id (by simp[D.ids]))]
   | _=>rfl
theorem Fw(hx:HX e h h')(hn:IM h){d:D}(hd:GF h d){k:D×Hp->Prop}(hh:(SJ h' d).all k):
   (SJ h d).all (λ y=>(∃EB,HX e y.2 EB/\k (y.1,EB))/\GF h y.1/\IM y.2/\EK h y.2):=by
 have pl:∀x:Pd,GF h (.p x):=λ x id hi=>by simp[D.ids] at hi
 unfold SJ at*;split at hh
 . rename_i id off len N;rw[hx.eq (hd id (by simp[D.ids]))] at hh;split at hh
   . rename_i h1;exact ⟨hh.1,⟨_,hx.froze h1,hh.2⟩,pl _,hn.froze id,λ j=>OZ⟩
   . exact ⟨hh.1,⟨_,hx,hh.2⟩,pl _,hn,EK.refl _⟩
   . exact hh.elim
 . rename_i id n;have hid:=hd id (by simp[D.ids]);rw[hx.eq hid] at hh;split at hh
   . exact ⟨hh.1,⟨_,hx.Cy _ _,hh.2⟩,pl _,hn.Cy hid rfl,EK.Cy hid _⟩
   . exact hh.elim
 . exact ⟨hh.1,⟨_,hx,hh.2⟩,pl _,hn,EK.refl _⟩
 . exact ⟨hh.1,⟨_,hx,hh.2⟩,hd,hn,EK.refl _⟩
theorem Gx.cons{d:D}{r:List D}:Gx h (d::r)↔GF h d/\Gx h r:=by
 unfold Gx GF;simp only[Du,Av];exact ⟨λ hh=>⟨λ id hi=>hh id (.inl hi),λ id hi=>hh id (.inr hi)⟩,λ hh id hi=>hi.elim (hh.1 id) (hh.2 id)⟩
theorem GF.le{h2:Hp}(hk:L9 h h2){d:D}(hd:GF h d):GF h2 d:=λ id hi=>hk id (hd id hi)
theorem Gx.le{h2:Hp}(hk:L9 h h2){d:List D}(hd:Gx h d):Gx h2 d:=λ id hi=>hk id (hd id hi)
mutual
theorem Aom:∀{d:D} {h h':Hp} (_:HX e h h') (_:IM h) (_:GF h d) {k:D×Hp->Prop} (_:(C4 h' d).all k),
    (C4 h d).all (λ y=>(∃EB,HX e y.2 EB/\k (y.1,EB))/\GF h y.1/\IM y.2/\EK h y.2)
  | .agg cs,h,h',hx,hn,hd,k,hh=>by
    simp only[C4] at*;refine Rs.CK (Rs.Cg (λ y hy=>?_) (NT hx hn (ds:=cs) hd (Rs.all_bind hh)));obtain ⟨⟨h1,IB,h2⟩,h3,h4⟩:=hy;exact ⟨h2.1,⟨h1,IB,h2.2⟩,h3,h4⟩
  | .Dr cs,h,h',hx,hn,hd,k,hh=>by
    simp only[C4] at*;refine Rs.CK (Rs.Cg (λ y hy=>?_) (NT hx hn (ds:=cs) hd (Rs.all_bind hh)));obtain ⟨⟨h1,IB,h2⟩,h3,h4⟩:=hy;exact ⟨h2.1,⟨h1,IB,h2.2⟩,h3,h4⟩
  | .p _,h,h',hx,hn,hd,k,hh=>by simp only[C4] at*;exact Fw hx hn hd hh
  | .cl _,h,h',hx,hn,hd,k,hh=>by simp only[C4] at*;exact Fw hx hn hd hh
  | .cz _,h,h',hx,hn,hd,k,hh=>by simp only[C4] at*;exact Fw hx hn hd hh
  | .ref _ _ _ _,h,h',hx,hn,hd,k,hh=>by simp only[C4] at*;exact Fw hx hn hd hh
  | .ptr _ _,h,h',hx,hn,hd,k,hh=>by simp only[C4] at*;exact Fw hx hn hd hh
  | .pe _,h,h',hx,hn,hd,k,hh=>by simp only[C4] at*;exact Fw hx hn hd hh
  | .ea _ _ _ _,h,h',hx,hn,hd,k,hh=>by simp only[C4] at*;exact Fw hx hn hd hh
  | .fn _ _,h,h',hx,hn,hd,k,hh=>by simp only[C4] at*;exact Fw hx hn hd hh
  | .np,h,h',hx,hn,hd,k,hh=>by simp only[C4] at*;exact Fw hx hn hd hh
  | .mv _,h,h',hx,hn,hd,k,hh=>by simp only[C4] at*;exact Fw hx hn hd hh
  | .Dt _ _,h,h',hx,hn,hd,k,hh=>by simp only[C4] at*;exact Fw hx hn hd hh
  | .MG _ _ _,h,h',hx,hn,hd,k,hh=>by simp only[C4] at*;exact Fw hx hn hd hh
  | .nr _ _ _ _,h,h',hx,hn,hd,k,hh=>by simp only[C4] at*;exact Fw hx hn hd hh
  | .Sq,h,h',hx,hn,hd,k,hh=>by simp only[C4] at*;exact Fw hx hn hd hh
  | .bad,h,h',hx,hn,hd,k,hh=>by simp only[C4] at*;exact Fw hx hn hd hh
theorem NT:∀{ds:List D} {h h':Hp} (_:HX e h h') (_:IM h) (_:Gx h ds) {k:List D×Hp->Prop} (_:(FV h' ds).all k),
    (FV h ds).all (λ y=>(∃EB,HX e y.2 EB/\k (y.1,EB))/\Gx h y.1/\IM y.2/\EK h y.2)
  | [],h,h',hx,hn,hd,k,hh=>by simp only[FV] at*;exact ⟨hh.1,⟨_,hx,hh.2⟩,hd,hn,EK.refl _⟩
  | d::r,h,h',hx,hn,hd,k,hh=>by
    simp only[FV] at*;obtain ⟨N8,IQ⟩:=Gx.cons.1 hd;refine Rs.CK (Rs.Cg (λ y hy=>?_) (Aom hx hn N8 (Rs.all_bind hh)));obtain ⟨⟨h1,IB,h2⟩,hp1,XA,P1⟩:=hy;refine Rs.CK (Rs.Cg (λ z hz=>?_) (NT IB XA (P1.Ac9.2 IQ) (Rs.all_bind h2)));obtain ⟨⟨h3,hx3,h4⟩,JU,hn2,IP⟩:=hz;exact ⟨h4.1,⟨h3,hx3,h4.2⟩,Gx.cons.2 ⟨hp1,P1.Ac9.1 JU⟩,hn2,P1.trans IP⟩
end
theorem Aq2(hx:HX e h h')(hn:IM h){d:D}(hd:GF h d){k:Pd×Hp->Prop}(hh:(Vb h' d).all k):
   (Vb h d).all (λ y=>(∃EB,HX e y.2 EB/\k (y.1,EB))/\IM y.2/\EK h y.2):=by
 unfold Vb at*;split at hh
 . exact ⟨hh.1,⟨_,hx,hh.2⟩,hn,EK.refl _⟩
 . exact ⟨hh.1,⟨_,hx,hh.2⟩,hn,EK.refl _⟩
 . exact ⟨hh.1,⟨_,hx,hh.2⟩,hn,EK.refl _⟩
 . rename_i id off len N;rw[hx.eq (hd id (by simp[D.ids]))] at hh;split at hh
   . rename_i h1;exact ⟨hh.1,⟨_,hx.froze h1,hh.2⟩,hn.froze id,λ j=>OZ⟩
   . exact ⟨hh.1,⟨_,hx,hh.2⟩,hn,EK.refl _⟩
   . exact hh.elim
 . rename_i id n;have hid:=hd id (by simp[D.ids]);rw[hx.eq hid] at hh;split at hh
   . exact ⟨hh.1,⟨_,hx.Cy _ _,hh.2⟩,hn.Cy hid rfl,EK.Cy hid _⟩
   . exact hh.elim
 . exact hh.elim
theorem Tq:∀{ds:List D} {h h':Hp} (_:HX e h h') (_:IM h) (_:Gx h ds) {k:List Pd×Hp->Prop} (_:(Ik h' ds).all k),
   (Ik h ds).all (λ y=>(∃EB,HX e y.2 EB/\k (y.1,EB))/\IM y.2/\EK h y.2)
 | [],h,h',hx,hn,hd,k,hh=>by simp only[Ik] at*;exact ⟨hh.1,⟨_,hx,hh.2⟩,hn,EK.refl _⟩
 | d::r,h,h',hx,hn,hd,k,hh=>by
   simp only[Ik] at*;obtain ⟨N8,IQ⟩:=Gx.cons.1 hd;refine Rs.CK (Rs.Cg (λ y hy=>?_) (Aq2 hx hn N8 (Rs.all_bind hh)));obtain ⟨⟨h1,IB,h2⟩,XA,P1⟩:=hy;refine Rs.CK (Rs.Cg (λ z hz=>?_) (Tq IB XA (P1.Ac9.2 IQ) (Rs.all_bind h2)));obtain ⟨⟨h3,hx3,h4⟩,hn2,IP⟩:=hz;exact ⟨h4.1,⟨h3,hx3,h4.2⟩,hn2,P1.trans IP⟩
theorem Ac1(hx:HX e h h'){d:D}(hd:GF h d):S7 h' d=S7 h d:=by
 unfold S7;split
 . rfl
 . rfl
 . rfl
 . rename_i id off len N;rw[hx.eq (hd id (by simp[D.ids]))]
 . rfl
def Beh(e h:Hp)(q:Option Nat)(k:D×Hp->Prop)(y:D×Hp):Prop:=(∃EB,HX e y.2 EB/\k (y.1,EB))/\EU q h y.2
theorem Arq(hx:HX e h h'){q:Nat}{t t2:TypeId}{s x:D}(hs:GF h s)(hd:GF h x){k:D×Hp->Prop}(hh:(UM P h' q t t2 s x).all k):(UM P h q t t2 s x).all (Beh e h (some q) k):=by
 unfold UM at*;split at hh
 case h_2=>exact hh.elim
 split at hh
 case h_2=>exact hh.elim
 rw[Ac1 hx hd] at hh;refine Rs.CK (Rs.Cg (λ ys hy=>?_) (Rs.all_bind hh));split at hy
 . obtain ⟨⟨a1,a2,a3,a4,a5,a6⟩,hk⟩:=hy;refine ⟨⟨a1,a2,a3,a4,hx.nn' a5,a6⟩,⟨_,hx.cons _ _,hk⟩,λ j hj=>?_⟩;rw[Ct] at hj;split at hj
   . rename_i ej;exact .inr (.inl (by rw[ej]))
   . exact .inl hj
 . obtain ⟨⟨a1,a2,a3,a4,a5,a6⟩,hk⟩:=hy;refine ⟨⟨a1,a2,a3,a4,hx.nn' a5,a6⟩,⟨_,hx.cons _ _,hk⟩,λ j hj=>?_⟩;rw[Ct] at hj;split at hj
   . rename_i ej;exact .inr (.inl (by rw[ej]))
   . exact .inl hj
 . rename_i id off len N;have hid:=hs id (by simp[D.ids]);rw[hx.eq hid] at hy;obtain ⟨h0,hy⟩:=OB hy;refine VJ h0 ?_;split at hy
   . exact ⟨hy.1,⟨_,hx.Cy _ _,hy.2⟩,EU.Cy hid _⟩
   . exact hy.elim
 . rename_i id i len kk;have hid:=hs id (by simp[D.ids]);rw[hx.eq hid] at hy;split at hy
   . obtain ⟨⟨a1,a2,a3,a4,⟨b1,b2,b3,b4,b5,b6⟩,a5⟩,hk⟩:=hy;refine ⟨⟨a1,a2,a3,a4,⟨b1,b2,b3,b4,b5,hx.nn' b6⟩,a5⟩,⟨_,(hx.Cy _ _).cons _ _,hk⟩,λ j hj=>?_⟩;rw[Ct] at hj;split at hj
     . rename_i ej;exact .inr (.inl (by rw[ej]))
     . exact EU.Cy hid _ j hj
   . exact hy.elim
 . exact hy.elim
theorem Ao7(hx:HX e h h'){q:Nat}{t:TypeId}{s x:D}(hs:GF h s)(hd:GF h x){k:D×Hp->Prop}(hh:(Nc P h' t s x).all k):(Nc P h t s x).all (Beh e h (some q) k):=by
 unfold Nc at*;split at hh
 case h_2=>exact hh.elim
 split at hh
 case h_2=>exact hh.elim
 rw[Ac1 hx hd] at hh;refine Rs.CK (Rs.Cg (λ ys hy=>?_) (Rs.all_bind hh));split at hy
 case h_2=>exact hy.elim
 rename_i id off len N;have hid:=hs id (by simp[D.ids]);rw[hx.eq hid] at hy;split at hy
 . exact ⟨hy.1,⟨_,hx.Cy _ _,hy.2⟩,EU.Cy hid _⟩
 . exact hy.elim
theorem R2(a b:List D):Du (a++b)=Du a++Du b:=by
 induction a with
 | nil=>rfl
 | cons d r ih=>simp[Du,ih]
theorem w9{d:D}{cs:List D}(hs:d.stored=some cs):Du cs=d.ids:=by
 unfold D.stored at hs;split at hs
 . cases hs;cases d<;>simp[D.cells,D.ids,Du]
 . cases hs
theorem Ael(hx:HX e h h'){t:TypeId}{m i v:D}(hm:GF h m){k:Hp->Prop}(hh:(Kf P h' t m i v).all k):
   (Kf P h t m i v).all (λ y=>(∃EB,HX e y EB/\k EB)/\EU none h y):=by
 unfold Kf at*;split at hh
 . rename_i id key x h0;have hid:=hm id (by simp[D.ids]);rw[hx.eq hid] at hh;split at hh
   . exact ⟨hh.1,⟨_,hx.Cy _ _,hh.2⟩,EU.Cy hid _⟩
   . exact hh.elim
 . exact hh.elim
theorem Xg(hx:HX e h h'){id i n:Nat}{v:D}(ha:get h id≠none)(hv:GF h v){k:Hp->Prop}(hh:(FH h' id i n v).all k):
   (FH h id i n v).all (λ y=>(∃EB,HX e y EB/\k EB)/\EU none h y):=by
 unfold FH at*;split at hh
 . rename_i q off len N;have hq:=hv q (by simp[D.ids]);rw[hx.eq hq,hx.eq ha] at hh;split at hh
   . refine ⟨hh.1,⟨_,(hx.Cy _ _).Cy _ _,hh.2⟩,(EU.Cy ha _).trans (EU.Cy (L9.Cy _ _ _ _ hq) _)⟩
   . exact hh.elim
 . exact hh.elim
theorem Ado(hx:HX e h h')(hn:IM h){t:TypeId}{a v:D}(ha:GF h a)(hv:GF h v){k:Hp->Prop}(hh:(J9 P h' t a v).all k):
   (J9 P h t a v).all (λ y=>(∃EB,HX e y EB/\k EB)/\EU none h y):=by
 unfold J9 at*;split at hh
 case h_2=>exact hh.elim
 split at hh
 case h_2=>exact hh.elim
 rename_i MN;split at hh
 . rename_i id off;have hid:=ha id (by simp[D.ids]);rw[hx.eq hid] at hh;split at hh
   . exact ⟨hh.1,⟨_,hx.Cy _ _,hh.2⟩,EU.Cy hid _⟩
   . exact hh.elim
 . rename_i id i c N;have hid:=ha id (by simp[D.ids]);refine Rs.CK (Rs.Cg (λ y hy=>?_) (Tq hx hn (λ j hj=>hv j (by rw[<-w9 MN];exact hj)) (Rs.all_bind hh)));obtain ⟨⟨h1,IB,hy⟩,XA,P1⟩:=hy;have Axq:=(P1 id).2 hid;rw[IB.eq Axq] at hy;split at hy
   . exact ⟨hy.1,⟨_,IB.Cy _ _,hy.2⟩,λ j hj=>by
       rcases EU.Cy (q:=none) Axq _ j hj with h3 | h3 | h3
       . exact .inl ((P1 j).1 h3)
       . cases h3
       . exact .inr (.inr h3)⟩
   . exact hy.elim
 . rename_i id i n;have hid:=ha id (by simp[D.ids]);exact Rs.Qw (Rs.Es hh).1 (Xg hx hid hv (Rs.Es hh).2)
 . exact hh.elim
end
end Go.Am
namespace Go.Am
open Go
def isQ(o:Op):Bool:=
 match o with
 | .call c=>match c.callee with
   | .value _=>true
   | .builtin .append | .builtin .copy=>true
   | _=>false
 | .store _ _ _=>true
 | .slice _ _ _ _ _=>true
 | .buildSlice _ _ _=>true
 | .load _ _=>true
 | .mapUpdate _ _ _ _=>true
 | _=>false
section
variable {P:Program} {e h h':Hp}
theorem H0:∀(l T:List Nat) (id:Nat),id∈Fy T l->id∈T∨id∈l
 | [],T,id,hi=> .inl hi
 | i::r,T,id,hi=>by
   simp only[Fy] at hi;split at hi
   . rcases H0 r T id hi with h1 | h1
     . exact .inl h1
     . exact .inr (by simp[h1])
   . rcases H0 r _ id hi with h1 | h1
     . rcases Av.1 h1 with h2 | h2
       . exact .inl h2
       . simp only[Aw] at h2;exact .inr (by simp[h2])
     . exact .inr (by simp[h1])
theorem OQ(hn:IM h):∀(l:List Nat) (id:Nat),id∈IN h l->get h id≠none
 | [],id,hi=>by simp[IN] at hi
 | i::r,id,hi=>by
   simp only[IN,Av] at hi;rcases hi with h1 | h1
   . cases ho:get h i with
     | none=>rw[ho] at h1;simp at h1
     | some o=>rw[ho] at h1;exact hn i o ho id h1
   . exact OQ hn r id h1
theorem j8(hn:IM h){ids:List Nat}(hp:∀id∈ids,get h id≠none):∀id∈DJ h ids,get h id≠none:=by
 intro id hi;unfold DJ at hi;simp only at hi;rcases H0 _ _ _ hi with h0 | h0
 . rcases H0 _ _ _ h0 with h1 | h1
   . rcases H0 _ _ _ h1 with h2 | h2
     . rcases H0 _ _ _ h2 with h3 | h3
       . simp at h3
       . exact hp id h3
     . exact OQ hn _ _ h2
   . exact OQ hn _ _ h1
 . have hg:∀j,id∈ghost h j->get h id≠none:=by
     intro j hj;unfold ghost at hj;split at hj
     . rename_i hgj;simp only[Aw] at hj;subst hj;rw[hgj];simp
     . simp at hj
   simp only[Rr,Av] at h0;rcases h0 with h0 | h0 | h0 | h0<;>exact hg _ h0
theorem Zy(hx:HX e h h'){q:Nat}:∀(l:Hp),fresh q h' l->fresh q h l
 | [],_=>trivial
 | (j,_)::r,hf=>⟨hf.1.imp id λ h1=>hx.nn' h1,Zy hx r hf.2⟩
theorem Aoh(hx:HX e h h')(he:∀id,get e id≠none->id<10000)(hn:IM h){f:FuncId}{ds:List D}(hd:Gx h ds){q:Nat}{k:D->Hp->Prop}(hh:HJ P h' f ds q k):
   HJ P h f ds q (λ d y=>(∃EB,HX e y EB/\k d EB)/\EU none h y):=by
 have hp:=j8 hn hd;have hs:∀id∈DJ h (Du ds),(get h id).isSome=true:=λ id hi=>by
   have:=hp id hi;cases hg:get h id with
   | none=>exact (this hg).elim
   | some o=>rfl
 unfold HJ at*;rw[WN hx he _ hs] at hh;obtain ⟨h1,h2,h3⟩:=hh;refine ⟨h1,AB.2 hs,?_⟩;rw[u9 hx _ _ _ hs] at h3;refine h3.mono λ h2 r ⟨hf,hk⟩=>⟨Zy hx h2 hf,⟨_,PI hx _ _ _,hk⟩,?_⟩;intro i hi;have key:∀(l:Hp),get (merge (DJ h (Du ds)) q h l) i≠none->get h i≠none∨some i=none∨10000<=i:=by
   intro l
   induction l with
   | nil=>intro h4;exact .inl h4
   | cons x r ih=>
     obtain ⟨j,o⟩:=x;intro h4;simp only[merge] at h4;split at h4
     . rename_i id hid;rw[CS] at h4;by_cases ej:i=id
       . subst ej;unfold back at hid;split at hid
         . exact .inl (hp i (AR hid))
         . simp only[An] at hid;exact .inr (.inr (by omega))
       . rw[if_neg ej] at h4;exact ih h4
     . exact ih h4
 exact key h2 hi
theorem Aof{env:List (Nat×D)}{n:Nat}(hx:HX e h h')(hn:IM h){f:Operand}{args:List Operand}(hf:GF h (ev ⟨env,h,n⟩ f))(ha:∀x∈args,GF h (ev ⟨env,h,n⟩ x))
   {k:FuncId×List D×Hp->Prop} (hh:(G9 ⟨env,h',n⟩ f args).all k):
   (G9 ⟨env,h,n⟩ f args).all (λ y=>(∃EB,HX e y.2.2 EB/\k (y.1,y.2.1,EB))/\Gx y.2.2 y.2.1/\IM y.2.2/\EK h y.2.2):=by
 have ef:ev ⟨env,h',n⟩=ev ⟨env,h,n⟩:=funext λ _=>rfl;unfold G9 at*;rw[ef] at hh;have IS:Gx h (args.map (ev ⟨env,h,n⟩)):=by
   intro id hi;clear hh
   induction args with
   | nil=>simp[Du] at hi
   | cons x r ih=>
     simp only[AH,Du,Av] at hi;rcases hi with h1 | h1
     . exact ha x (by simp) id h1
     . exact ih (λ y hy=>ha y (by simp[hy])) h1
 split at hh
 . rename_i g cap he;rw[he] at hf;have Dw:Gx h (args.map (ev ⟨env,h,n⟩)++cap):=by
     intro id hi;rw[R2,Av] at hi;rcases hi with h1 | h1
     . exact IS id h1
     . exact hf id h1
   refine Rs.CK (Rs.Cg (λ y hy=>?_) (NT hx hn Dw (Rs.all_bind hh)));obtain ⟨⟨h1,IB,h2⟩,hp1,XA,P1⟩:=hy;exact ⟨h2.1,⟨h1,IB,h2.2⟩,P1.Ac9.2 hp1,XA,P1⟩
 . exact hh.elim
theorem Ds(st:St)(t:Option Nat)(d:D):(st.put t d).hp=st.hp:=by
 cases t with
 | none=>rfl
 | some t=>simp only[St.put];split<;>rfl
theorem Tp{K:St->Prop}{env:List (Nat×D)}{n:Nat}{dst:Option Nat}(y h2:Hp)(d:D)(hk:K ((⟨env,h2,n⟩:St).put dst d)):K {(⟨env,y,n⟩:St).put dst d with hp:=h2}:=by
 cases dst with
 | none=>exact hk
 | some t=>
   simp only[St.put] at hk ⊢;split
   . rename_i ht;rw[if_pos ht] at hk;exact hk
   . rename_i ht;rw[if_neg ht] at hk;exact hk
theorem Ahv(d:D):Du d.cells=d.ids:=by cases d<;>simp[D.cells,D.ids,Du]
theorem TR{l:List D}{d:D}(h:d∈l):∀i∈d.ids,i∈Du l:=by
 induction l with
 | nil=>cases h
 | cons x r ih=>
   intro i hi;simp only[Du,Av];rcases AG.1 h with rfl | h
   . exact .inl hi
   . exact .inr (ih h i hi)
theorem Rf{l:List D}{i:Nat}:i∈Du l->∃d∈l,i∈d.ids:=by
 induction l with
 | nil=>intro h;simp[Du] at h
 | cons x r ih=>
   intro h;simp only[Du,Av] at h;rcases h with h | h
   . exact ⟨x,by simp,h⟩
   . obtain ⟨d,hd,hi⟩:=ih h;exact ⟨d,by simp[hd],hi⟩
theorem Uh{h:Hp}{place:Nat->Option (Nat×Nat)}:∀(ps:List (Nat×D)) (cells cs:List D),(∀x∈ps,GF h x.2)->Gx h cells->GO place cells ps=some cs->Gx h cs
 | [],cells,cs,_,hc,hf=>by simp only[GO,An] at hf;subst hf;exact hc
 | (i,d)::r,cells,cs,hp,hc,hf=>by
   simp only[GO] at hf;split at hf
   . cases hf
   . split at hf
     . refine Uh r _ cs (λ x hx=>hp x (by simp[hx])) ?_ hf;intro id hi;obtain ⟨d2,IQ,D7⟩:=Rf hi;rcases Av.1 IQ with h1 | h1
       . rcases Av.1 h1 with h2 | h2
         . exact hc id (TR (BL h2) id D7)
         . have:=TR h2 id D7;rw[Ahv] at this;exact hp (i,d) (by simp) id this
       . exact hc id (TR (List.mem_of_mem_drop h1) id D7)
     . cases hf
theorem Ate{env:List (Nat×D)}{n:Nat}(hx:HX e h h')(he:∀id,get e id≠none->id<10000)(hn:IM h){o:Oper}(hq:isQ o.op=true)(ho:∀x∈o.op.operands.toList,GF h (ev ⟨env,h,n⟩ x)){K:St->Prop}(hh:QK P false o K ⟨env,h',n⟩):
   QK P false o (λ st=>(∃EB,HX e st.hp EB/\K {st with hp:=EB})/\EU (some (o.dst.getD 0)) h st.hp) ⟨env,h,n⟩:=by
 have ef:ev ⟨env,h',n⟩=ev ⟨env,h,n⟩:=funext λ _=>rfl;unfold QK at*;split at hh
 . rename_i f args hc;rcases Rs.Gl hh with hh | hh
   case inr=>exact (AJ hh.1).elim
   have Lh:(∀x∈f::args,x∈o.op.operands.toList):=by
     unfold De at hc;split at hc
     case h_2=>cases hc
     rename_i cl P5;split at hc
     case h_2=>cases hc
     rename_i f' hf';simp only[An,BV] at hc;obtain ⟨rfl,rfl⟩:=hc;intro x hxm;rw[P5];simp[Op.operands,Call.operands,hf'] at hxm ⊢;exact hxm
   simp only[LP] at hh ⊢;refine Rs.Fb (Rs.Cg (λ x HH=>?_) (Aof hx hn (ho f (Lh f (by simp))) (λ x hx3=>ho x (Lh x (by simp[hx3]))) hh));obtain ⟨⟨h1,IB,hc⟩,hp1,XA,P1⟩:=HH;refine Pa (λ d y hy=>?_) (Aoh IB he XA hp1 hc);obtain ⟨⟨h2,HH,hk⟩,MQ⟩:=hy;refine ⟨⟨h2,by rw[Ds];exact HH,Tp _ _ _ hk⟩,λ i hi=>?_⟩;rw[Ds] at hi;rcases MQ i hi with h3 | h3 | h3
   . exact .inl ((P1 i).1 h3)
   . cases h3
   . exact .inr (.inr h3)
 . rcases Rs.Gl hh with hh | hh
   case inr=>exact (AJ hh.1).elim
   have fin:∀{r:Rs (D×Hp)},r.all (Beh e h (some (o.dst.getD 0)) λ x=>K ((⟨env,x.2,n⟩:St).put o.dst x.1))->
       r.JO (false=true/\Ou P o (λ st=>(∃EB,HX e st.hp EB/\K {st with hp:=EB})/\EU (some (o.dst.getD 0)) h st.hp) ⟨env,h,n⟩) (λ x=>(λ st:St=>(∃EB,HX e st.hp EB/\K {st with hp:=EB})/\EU (some (o.dst.getD 0)) h st.hp) ((⟨env,x.2,n⟩:St).put o.dst x.1)):=λ hr=>
     Rs.Fb (Rs.Cg (λ x HH=>by
       obtain ⟨⟨h1,IB,hk⟩,MQ⟩:=HH;exact ⟨⟨h1,by rw[Ds];exact IB,Tp _ _ _ hk⟩,by rw[Ds];exact MQ⟩) hr)
   refine fin ?_;cases Lh:o.op with
   | call cl=>
     cases P5:cl.callee with
     | builtin b=>
       cases b<;>rw[Lh] at hq<;>simp only[isQ,P5,AL] at hq
       . simp only[Kn,Lh,P5,ef] at hh ⊢;have IS:∀x∈cl.args.toList,GF h (ev ⟨env,h,n⟩ x):=λ x hx3=>ho x (by rw[Lh];simp[Op.operands,Call.operands,P5];simpa using hx3);generalize hl:cl.args.toList.map (ev ⟨env,h,n⟩)=l at hh ⊢;rcases l with _ | ⟨s,_ | ⟨x,_ | ⟨z,r⟩⟩⟩
         . exact hh.elim
         . cases s<;>first | exact hh.elim | (rename_i z;cases z<;>exact hh.elim)
         . obtain ⟨sq,xq,Iv,rfl,rfl⟩:=Io hl;have hb3:∀hz:Hp,E9 P ⟨env,hz,n⟩ (o.dst.getD 0) .append cl.argTypes [ev ⟨env,h,n⟩ sq,ev ⟨env,h,n⟩ xq]=match cl.argTypes[0]?,cl.argTypes[1]? with
             | some t,some t2=>UM P hz (o.dst.getD 0) t t2 (ev ⟨env,h,n⟩ sq) (ev ⟨env,h,n⟩ xq)
             | _,_=> .fail:=λ _=>rfl
           rw[hb3] at hh ⊢;split at hh
           . rename_i t t2 h1 h2;exact Arq hx (IS sq (by rw[Iv];simp)) (IS xq (by rw[Iv];simp)) hh
           . exact hh.elim
         . first | exact hh.elim | (cases s<;>first | exact hh.elim | (rename_i z1;cases z1<;>exact hh.elim))
       . simp only[Kn,Lh,P5,ef] at hh ⊢;have IS:∀x∈cl.args.toList,GF h (ev ⟨env,h,n⟩ x):=λ x hx3=>ho x (by rw[Lh];simp[Op.operands,Call.operands,P5];simpa using hx3);generalize hl:cl.args.toList.map (ev ⟨env,h,n⟩)=l at hh ⊢;rcases l with _ | ⟨s,_ | ⟨x,_ | ⟨z,r⟩⟩⟩
         . exact hh.elim
         . cases s<;>first | exact hh.elim | (rename_i z;cases z<;>exact hh.elim)
         . obtain ⟨sq,xq,Iv,rfl,rfl⟩:=Io hl;have hb3:∀hz:Hp,E9 P ⟨env,hz,n⟩ (o.dst.getD 0) .copy cl.argTypes [ev ⟨env,h,n⟩ sq,ev ⟨env,h,n⟩ xq]=match cl.argTypes[0]?,cl.argTypes[1]? with
             | some t,some _=>Nc P hz t (ev ⟨env,h,n⟩ sq) (ev ⟨env,h,n⟩ xq)
             | _,_=> .fail:=λ _=>rfl
           rw[hb3] at hh ⊢;split at hh
           . rename_i t t2 h1 h2;exact Ao7 hx (IS sq (by rw[Iv];simp)) (IS xq (by rw[Iv];simp)) hh
           . exact hh.elim
         . first | exact hh.elim | (cases s<;>first | exact hh.elim | (rename_i z1;cases z1<;>exact hh.elim))
     | _=>rw[Lh] at hq;rename_i hc _;simp only[isQ,P5,AL] at hq<;>simp_all [De]
   | store t a v=>
     simp only[Kn,Lh,Lz,ef] at hh ⊢;have h1:=Ado hx hn (ho a (by rw[Lh];simp[Op.operands])) (ho v (by rw[Lh];simp[Op.operands])) (Rs.all_bind hh);refine Rs.CK (Rs.Cg (λ y hy=>?_) h1);obtain ⟨⟨h2,HH,hk⟩,MQ⟩:=hy;refine ⟨hk.1,⟨h2,HH,hk.2⟩,λ i hi=>?_⟩;rcases MQ i hi with h3 | h3 | h3
     . exact .inl h3
     . cases h3
     . exact .inr (.inr h3)
   | slice t x lo hi mx=>
     have hp:=ho x (by rw[Lh];simp[Op.operands]);have hsl:HO P ⟨env,h',n⟩ t (ev ⟨env,h,n⟩ x) lo hi mx=HO P ⟨env,h,n⟩ t (ev ⟨env,h,n⟩ x) lo hi mx:=by
       have hb:∀o d,Ea ⟨env,h',n⟩ o d=Ea ⟨env,h,n⟩ o d:=λ o d=>by cases o<;>rfl
       generalize ev ⟨env,h,n⟩ x=d at hp;unfold HO;simp only[hb];rcases CG P t with _ | ⟨s1,b1,k1,z1⟩
       . rfl
       cases k1 with
       | string=>cases d with
         | p y=>cases y<;>rfl
         | _=>rfl
       | slice e=>
         simp only;cases CG P e with
         | none=>rfl
         | some ti=>cases d with
           | p y=>cases y<;>rfl
           | ref id off len N=>
             have:sg h' id=sg h id:=by simp only[sg,hx.eq (hp id (by simp[D.ids]))]
             simp only[this]
           | _=>rfl
       | _=>rfl
     simp only[Kn,Lh,J7,ef] at hh ⊢;rw[hsl] at hh;have h1:=Rs.all_bind hh;refine Rs.CK (Rs.Cg (λ y hy=>?_) h1);exact ⟨hy.1,⟨h',hx,hy.2⟩,EU.refl _ _⟩
   | buildSlice t n2 ps=>
     have hps:∀x∈ps.toList.map (λ q=>(q.1,ev ⟨env,h,n⟩ q.2)),GF h x.2:=λ x hx3=>by
       obtain ⟨q,hq3,rfl⟩:=AT.1 hx3;exact ho q.2 (by rw[Lh];simp[Op.operands];exact ⟨q.1,by simpa using hq3⟩)
     simp only[Kn,Lh,Lz,ef] at hh ⊢;split at hh
     . split at hh
       . split at hh
         . rename_i cs hcs;have hpc:Gx h cs:=Uh _ _ _ hps (λ id hi=>by
             obtain ⟨d2,IQ,D7⟩:=Rf hi;rw[List.mem_replicate] at IQ;rw[IQ.2] at D7;simp[D.ids] at D7) hcs
           split at hh
           . exact hh.elim
           rename_i hnr;rw[if_neg hnr];refine Rs.CK (Rs.Cg (λ y hy=>?_) (Tq hx hn hpc (Rs.all_bind hh)));obtain ⟨⟨h2,HH,hk⟩,hn2,IP⟩:=hy;refine ⟨⟨hk.1.1,hk.1.2.1,HH.nn' hk.1.2.2⟩,⟨_,HH.cons _ _,hk.2⟩,λ i hi=>?_⟩;rw[Ct] at hi;split at hi
           . rename_i ej;exact .inr (.inl (by rw[ej]))
           . exact .inl ((IP i).1 hi)
         . exact hh.elim
       . exact hh.elim
     . exact hh.elim
   | mapUpdate t m i x=>
     simp only[Kn,Lh,Lz,ef] at hh ⊢;have h1:=Ael hx (ho m (by rw[Lh];simp[Op.operands])) (Rs.all_bind hh);refine Rs.CK (Rs.Cg (λ y hy=>?_) h1);obtain ⟨⟨h2,HH,hk⟩,MQ⟩:=hy;refine ⟨hk.1,⟨h2,HH,hk.2⟩,λ i hi=>?_⟩;rcases MQ i hi with h3 | h3 | h3
     . exact .inl h3
     . cases h3
     . exact .inr (.inr h3)
   | load t a=>
     have hp:=ho a (by rw[Lh];simp[Op.operands]);simp only[Kn,Lh,J7,ef] at hh ⊢;rw[Akh hx hp] at hh;have h1:=Rs.all_bind hh;refine Rs.CK (Rs.Cg (λ y hy=>?_) h1);exact ⟨hy.1,⟨h',hx,hy.2⟩,EU.refl _ _⟩
   | _=>rw[Lh] at hq;simp[isQ] at hq
end
end Go.Am
namespace Go.Am
open Go
mutual
def Nl (h:Hp):D->D->Prop
  | .p x,d=>d= .p x
  | .cl es,d=>d= .p (.sl es)
  | .ref id off len N,d=>match get h id with
    | some (.arr _ _ es)=>N=es.length/\d= .p (.sl ((es.drop off).take len))
    | some (.M3 _ es)=>N=es.length/\d= .p (.sl ((es.drop off).take len))
    | _=>False
  | .Dt id n,d=>match get h id with
    | some (.Dp _ _ _ _ rows none)=>n=rows.length/\d= .p (.sl (rows.map λ r=>[.sl r]))
    | _=>False
  | .nr id i len k,d=>match get h id with
    | some (.Dp _ _ _ k2 rows none)=>(k=k2/\i<rows.length/\len=(rows.getD i []).length)/\d= .p (.sl (rows.getD i []))
    | _=>False
  | .agg cs,.agg cs'=>GS h cs cs'
  | .fn f cap,.fn f' Aoe=>f'=f/\GS h cap Aoe
  | _,_=>False
def GS (h:Hp):List D->List D->Prop
  | [],[]=>True
  | d::r,d'::r'=>Nl h d d'/\GS h r r'
  | _,_=>False
end
def D.Ws:D->Bool
 | .p x=>x.flat
 | _=>false
def D.flat:D->Bool
 | .p x=>x.flat
 | .Dr cs=>cs.all D.Ws
 | .agg cs=>cs.all D.Ws
 | _=>false
mutual
def D.HD:D->D
  | .p x=>if x.flat then .p x else .Sq
  | .agg cs=> .agg (Ix cs)
  | .Dr cs=> .Dr (Ix cs)
  | _=> .bad
def Ix:List D->List D
  | []=>[]
  | d::r=>d.HD::Ix r
end
theorem OD:∀cs:List D,(Ix cs).length=cs.length
 | []=>rfl
 | _::r=>by simp[Ix,OD r]
theorem OE:∀(cs:List D) (i:Nat),(Ix cs)[i]?=(cs[i]?).map D.HD
 | [],i=>by simp[Ix]
 | d::r,0=>by simp[Ix]
 | d::r,i+1=>by simp[Ix,OE r i]
theorem RS:∀{d:D},d.Ws=true->d.HD=d
 | .p x,h=>by simp only[D.Ws] at h;simp[D.HD,h]
 | .agg _,h | .Dr _,h | .cl _,h | .cz _,h | .ref _ _ _ _,h | .ptr _ _,h | .pe _,h | .ea _ _ _ _,h | .fn _ _,h | .np,h | .mv _,h | .Dt _ _,h | .MG _ _ _,h | .nr _ _ _ _,h | .Sq,h | .bad,h=>by simp[D.Ws] at h
theorem Mt:∀{cs:List D},cs.all D.Ws=true->Ix cs=cs
 | [],_=>rfl
 | d::r,h=>by
   simp only[List.all_cons,As] at h;simp[Ix,RS h.1,Mt h.2]
theorem Tc{d:D}(h:d.flat=true):d.HD=d:=by
 cases d with
 | p x=>exact RS h
 | agg cs=>simp only[D.flat] at h;simp[D.HD,Mt h]
 | Dr cs=>simp only[D.flat] at h;simp[D.HD,Mt h]
 | _=>simp[D.flat] at h
section
variable {F F':Nat->Prop} {w w':World} {M M':Nat->Mb} {s s':Nat->Option Sg} {h h' e:Hp}
theorem DR.HD{d:D}{v:Value}(hr:DR F w M s d v):DR F' w' M' s' d.HD v:=by
 induction hr with
 | p hp=>
   simp only[D.HD];split
   . rename_i hf;cases hp with
     | int k n=>exact .p (.int k n)
     | bool b=>exact .p (.bool b)
     | str l=>exact .p (.str l)
     | YJ a cap=>simp[Pd.flat] at hf
     | sl es b off cap sz row t fr _ _ _ _ _ _=>simp[Pd.flat] at hf
   . exact .Sq _ hp.J0
 | agg cs vs hl hc ih=>
   simp only[D.HD];refine .agg _ vs (by rw[OD];exact hl) λ i c hi=>?_;rw[OE] at hi;cases hg:cs[i]? with
   | none=>rw[hg] at hi;cases hi
   | some x=>rw[hg] at hi;cases hi;exact ih i x hg
 | Dr cs vs hl hc ih=>
   simp only[D.HD];refine .Dr _ vs (by rw[OD];exact hl) λ i c hi=>?_;rw[OE] at hi;cases hg:cs[i]? with
   | none=>rw[hg] at hi;cases hi
   | some x=>rw[hg] at hi;cases hi;exact ih i x hg
 | _=>simp only[D.HD];exact .bad _
def Ad6(F:Nat->Prop)(M:Nat->Mb)(h:Hp):Nat->Prop:=λ b=>F b∨ET M h b
mutual
theorem Aic (hr:HR F w M h):∀(d d':D) {v:Value},DR F w M (sg h) d v->Nl h d d'->DR (Ad6 F M h) w M (sg []) d' v
  | .p x,d',v,hd,hb=>by
    simp only[Nl] at hb;subst hb;cases hd with | p hp=>exact .p (hp.CR (λ _ _=>rfl) λ b hb=> .inl hb)
  | .cl es,d',v,hd,hb=>by
    simp only[Nl] at hb;subst hb;cases hd with | cl _ ad hp _=>exact .p (hp.CR (λ _ _=>rfl) λ b hb=> .inl hb)
  | .ref id off len N,d',v,hd,hb=>by
    simp only[Nl] at hb;cases hd with | ref _ _ _ _ sz n _ hs hN hv hx=>
      split at hb
      . rename_i t Su es ho;obtain ⟨R7,rfl⟩:=hb;have:Su=sz/\es.length=n:=by simpa [sg,ho,AO.sg] using hs
        obtain ⟨rfl,rfl⟩:=this;exact .p (JX (st:=⟨[],h,0⟩) hr (.inl ⟨t,ho⟩) rfl (hx R7) (λ b hb=> .inl hb) λ hc=> .inr ⟨id,_,ho,hc,rfl⟩)
      . rename_i Su es ho;obtain ⟨R7,rfl⟩:=hb;have:Su=sz/\es.length=n:=by simpa [sg,ho,AO.sg] using hs
        obtain ⟨rfl,rfl⟩:=this;have hob:=hr.obj id _ ho;exact .p (JX (st:=⟨[],h,0⟩) hr (.inr ho) rfl (hx R7) (λ b hb=> .inl hb) λ hc=> .inl (hob.2.2.2 hc).1)
      . exact hb.elim
  | .Dt id n,d',v,hd,hb=>by
    simp only[Nl] at hb;cases hd with | Dt _ _ sz m k _ hs hN hv hx=>
      split at hb
      . rename_i t e2 Su k2 rows ho;obtain ⟨R7,rfl⟩:=hb;have:Su=sz/\rows.length=m/\k2=k:=by simpa [sg,ho,AO.sg] using hs
        obtain ⟨rfl,rfl,rfl⟩:=this;refine .p ((Pp (st:=⟨[],h,0⟩) hr ho (by have:=hx R7;rwa[R7] at this)).CR (λ _ _=>rfl) λ b hb=>?_);rcases hb with hb | hb
        . exact .inl hb
        . exact .inr ⟨id,_,ho,hb⟩
      . exact hb.elim
  | .nr id i len q,d',v,hd,hb=>by
    simp only[Nl] at hb;cases hd with | nr _ _ _ _ sz m k _ hs hN hv hx=>
      split at hb
      . rename_i t e2 Su k2 rows ho;obtain ⟨⟨R7,r7,hb3⟩,rfl⟩:=hb;have:Su=sz/\rows.length=m/\k2=k:=by simpa [sg,ho,AO.sg] using hs
        obtain ⟨rfl,rfl,rfl⟩:=this;obtain ⟨bc,g1,g2,a,g3,g4⟩:=hx R7;have hn:H2 F w (M id) t e2 Su rows none:=hr.obj id _ ho;have hg:rows[i]?=some (rows.getD i []):=by simp[List.getD,r7]
        subst g3;rw[hb3];exact .p ((hn.rows i _ bc hg g1 (by simp)).pure (λ b hb=> .inl hb) (λ hc=> .inr ⟨id,_,ho,.inr ⟨i,bc,g1,hc,rfl⟩⟩) g4)
      . exact hb.elim
  | .agg cs,.agg cs',v,hd,hb=>by
    simp only[Nl] at hb;cases hd with | agg _ vs hl hc=>
      have h1:=LY hr cs cs' (vs:=vs.toList) (by simpa using hl) (λ i e he=>by have:=hc i e he;simpa [List.getD,Array.getD_eq_getD_getElem?] using this) hb;exact .agg _ vs (by have:=h1.1;simpa using this) (λ i e he=>by have:=h1.2 i e he;simpa [List.getD,Array.getD_eq_getD_getElem?] using this)
  | .fn f cap,.fn f' Aoe,v,hd,hb=>by
    simp only[Nl] at hb;obtain ⟨rfl,hb⟩:=hb;cases hd with | fn _ _ vs hl hc=>
      have h1:=LY hr cap Aoe (vs:=vs.toList) (by simpa using hl) (λ i e he=>by have:=hc i e he;simpa [List.getD,Array.getD_eq_getD_getElem?] using this) hb;exact .fn _ _ vs (by have:=h1.1;simpa using this) (λ i e he=>by have:=h1.2 i e he;simpa [List.getD,Array.getD_eq_getD_getElem?] using this)
theorem LY (hr:HR F w M h):∀(ds ZY:List D) {vs:List Value},vs.length=ds.length->(∀(i:Nat) c,ds[i]?=some c->DR F w M (sg h) c (vs.getD i undef))->GS h ds ZY->Kq (Ad6 F M h) w M (sg []) ZY vs
  | [],[],vs,hl,_,_=>⟨hl,λ i c hi=>by simp at hi⟩
  | d::r,d'::r',vs,hl,hc,hb=>by
    simp only[GS] at hb;rcases vs with _ | ⟨x,vs⟩
    . simp at hl
    have h0:=Aic hr d d' (v:=x) (by simpa using hc 0 d rfl) hb.1;have h1:=LY hr r r' (vs:=vs) (by simpa using hl) (λ i c hi=>by simpa using hc (i+1) c (by simpa using hi)) hb.2;refine ⟨by simp[h1.1],λ i c hi=>?_⟩;rcases i with _ | i
    . simp at hi;subst hi;simpa using h0
    . simpa using h1.2 i c (by simpa using hi)
end
mutual
theorem Aid:∀(d d':D),(∀id∈d.ids,get h' id=get h id)->Nl h d d'->Nl h' d d'
  | .p x,d',_,hb=>by simp only[Nl] at hb ⊢;exact hb
  | .cl es,d',_,hb=>by simp only[Nl] at hb ⊢;exact hb
  | .ref id off len N,d',hg,hb=>by simp only[Nl] at hb ⊢;rw[hg id (by simp[D.ids])];exact hb
  | .Dt id n,d',hg,hb=>by simp only[Nl] at hb ⊢;rw[hg id (by simp[D.ids])];exact hb
  | .nr id i len q,d',hg,hb=>by simp only[Nl] at hb ⊢;rw[hg id (by simp[D.ids])];exact hb
  | .agg cs,.agg cs',hg,hb=>by simp only[Nl] at hb ⊢;exact JP cs cs' (λ id hi=>hg id (by simpa [D.ids] using hi)) hb
  | .fn f cap,.fn f' Aoe,hg,hb=>by simp only[Nl] at hb ⊢;exact ⟨hb.1,JP cap Aoe (λ id hi=>hg id (by simpa [D.ids] using hi)) hb.2⟩
theorem JP:∀(ds ZY:List D),(∀id∈Du ds,get h' id=get h id)->GS h ds ZY->GS h' ds ZY
  | [],[],_,_=>by simp only[GS]
  | d::r,d'::r',hg,hb=>by
    simp only[GS] at hb ⊢;exact ⟨Aid d d' (λ id hi=>hg id (by simp[Du,hi])) hb.1,JP r r' (λ id hi=>hg id (by simp[Du,hi])) hb.2⟩
end
end
def UQ(P:Program)(o:Oper)(K:St->Prop)(st:St):Prop:=
 ∃(f:Operand) (args:List Operand) (g:FuncId) (cap ds:List D),De o.op=some (f,args)/\ev st f= .fn g cap/\GS st.hp (args.map (ev st)++cap) ds/\
   B1 P g ds [] λ h r=>h=[]/\K (st.put o.dst r.HD)
section
variable {P:Program} {c:Ctx} {st st':St} {a:Act} {w:World} {F:Nat->Prop} {M:Nat->Mb} {o:Oper} {K K':St->Prop}
theorem Rel.Aeq(hr:Rel c st a w F M){v:Value}{w':World}{F':Nat->Prop}{M':Nat->Mb}{d:D}(hd:DR F' w' M' (sg []) d v)(hk:Ap0 ⟨w,Ad6 F M st.hp,ET M [],M,sg []⟩ w' F' M' []):
   Rel c st a w' F M/\DR F w' M (sg st.hp) d.HD v:=by
 have N5:∀b,¬ET M [] b:=by rintro b ⟨id,o,ho,_⟩;simp[get] at ho
 have hold:∀b,b<w.heap.size->w'.heap[b]?=w.heap[b]?:=λ b hb=>hk.NA b hb (N5 b);have EZ:w.heap.size<=w'.heap.size:=hk.size;have hF:∀b,F b->w'.heap[b]?=w.heap[b]?:=λ b hb=>hold b (hr.CR.Fl b hb);have hO:∀b,ET M st.hp b->w'.heap[b]?=w.heap[b]?:=λ b hb=>hold b (hr.heap.lt hb);refine ⟨⟨λ t d ht=>(hr.env t d ht).CR hF (λ _ h=>h) (CX.refl _ _),hr.size,hr.defers,hr.heap.CR hF hO,?_⟩,hd.HD⟩;have G5:=hr.CR;exact ⟨hk.os.trans G5.os,hk.tape.trans G5.tape,hk.output.trans G5.output,Br G5.size EZ,λ b hb hO=>(hold b (Nat.lt_of_lt_of_le hb G5.size)).trans (G5.NA b hb hO),G5.F0,G5.Fn,
   λ b hb=>Nat.lt_of_lt_of_le (G5.Fl b hb) EZ,G5.own,G5.W5,G5.s0b⟩
theorem Pf(hr:Rel c st a w F M)(hb:UQ P o K st)(Q:Exit->Act->World->Prop):o.wp P a w (Good c K) Q:=by
 obtain ⟨f,args,g,cap,ds,ho,hg,Ale,MT⟩:=hb;unfold De at ho;split at ho
 case h_2=>cases ho
 rename_i cl Lh;split at ho
 case h_2=>cases ho
 rename_i f' hf;simp only[An,BV] at ho;obtain ⟨rfl,rfl⟩:=ho;have hfv:=Ci hr f';rw[hg] at hfv;generalize hvf:a.eval f'=vf at hfv;cases hfv with
 | fn _ _ UF hl hc=>
   have IS:=(Rv hr cl.args.toList).append (cs':=cap) (vs':=UF.toList) ⟨by simpa using hl,λ i e he=>by have:=hc i e he;simpa [List.getD,Array.getD_eq_getD_getElem?] using this⟩;have Zt:=LY hr.heap _ _ IS.1 IS.2 Ale;have Akz:=MT (cl.args.map a.eval++UF) w (Ad6 F M st.hp) M ⟨λ id o ho=>by simp[get] at ho,λ id o Pk o' b ho=>by simp[get] at ho⟩
     (λ b hb=>hb.elim (hr.CR.Fl b) hr.heap.lt) (λ id hid=>by simp[sg,get] at hid) (by simpa using Zt)
   rcases Akz with ⟨T5,OX⟩ | ⟨v,w',IC,JT⟩
   . have Dy:(execOp a.eval o).run P w= .ok (.enter g (cl.args.map a.eval++UF)) w:=by
       simp only[execOp,Lh,hf,resolve,hvf,Deferred.ofValue,Sem.run_bind,Sem.run_pure,Result.andThen_ok,invoke,Array.empty_append];exact T5
     unfold Oper.wp;rw[Dy];refine OX.mono ?_;rintro e w' ⟨v,h',r,F2,M2,rfl,⟨rfl,hk⟩,_,hd,HI⟩;obtain ⟨HB,IQ⟩:=hr.Aeq hd HI;exact ⟨_,F,M,hk,HB.put IQ o.dst⟩
   . have Dy:(execOp a.eval o).run P w= .ok (.value v) w':=by
       simp only[execOp,Lh,hf,resolve,hvf,Deferred.ofValue,Sem.run_bind,Sem.run_pure,Result.andThen_ok,invoke,Array.empty_append];exact IC
     obtain ⟨v2,h',r,F2,M2,SA,⟨rfl,hk⟩,_,hd,HI⟩:=JT;cases SA;obtain ⟨HB,IQ⟩:=hr.Aeq hd HI;unfold Oper.wp;rw[Dy];exact ⟨_,F,M,hk,HB.put IQ o.dst⟩
theorem TN{f:Operand}{args:List Operand}(hc:De o.op=some (f,args)):∀x∈f::args,x∈o.op.operands.toList:=by
 unfold De at hc;split at hc
 case h_2=>cases hc
 rename_i cl P5;split at hc
 case h_2=>cases hc
 rename_i f' hf';simp only[An,BV] at hc;obtain ⟨rfl,rfl⟩:=hc;intro x hxm;rw[P5];simp[Op.operands,Call.operands,hf'] at hxm ⊢;exact hxm
theorem UP(h:∀x∈o.op.operands.toList,ev st' x=ev st x)(hp:∀id,get st'.hp id=get st.hp id)(hK:∀d,K (st.put o.dst d)->K' (st'.put o.dst d))(hb:UQ P o K st):UQ P o K' st':=by
 obtain ⟨f,args,g,cap,ds,ho,hg,Ale,MT⟩:=hb;have hx:=TN ho;have IS:args.map (ev st')=args.map (ev st):=List.map_congr_left λ x HH=>h x (hx x (by simp[HH]));refine ⟨f,args,g,cap,ds,ho,(h f (hx f (by simp))).trans hg,?_,MT.mono λ h' r hr=>⟨hr.1,hK _ hr.2⟩⟩;rw[IS];exact JP _ _ (λ id _=>hp id) Ale
theorem As7{env:List (Nat×D)}{n:Nat}{e h h':Hp}(hx:HX e h h')(ho:∀x∈o.op.operands.toList,GF h (ev ⟨env,h,n⟩ x))(hb:UQ P o K ⟨env,h',n⟩):
   UQ P o (λ st=>(∃EB,HX e st.hp EB/\K {st with hp:=EB})/\EU (some (o.dst.getD 0)) h st.hp) ⟨env,h,n⟩:=by
 obtain ⟨f,args,g,cap,ds,hc,hg,Ale,MT⟩:=hb;have Axc:=TN hc;refine ⟨f,args,g,cap,ds,hc,hg,?_,MT.mono λ h2 r hr=>⟨hr.1,⟨h',by rw[Ds];exact hx,Tp _ _ _ hr.2⟩,λ i hi=>by rw[Ds] at hi;exact .inl hi⟩⟩;refine JP _ _ (λ id hid=>?_) Ale;rw[R2,Av] at hid;have Oi:get h id≠none:=by
   rcases hid with h1 | h1
   . obtain ⟨d,hd,hi⟩:=Rf h1;obtain ⟨x,HH,rfl⟩:=AT.1 hd;exact ho x (Axc x (by simp[HH])) id hi
   . have h3:=ho f (Axc f (by simp)) id;have e2:ev ⟨env,h,n⟩ f= .fn g cap:=hg;rw[e2] at h3;exact h3 (by simpa [D.ids] using h1)
 exact (hx.eq Oi).symm
def Yt(P:Program)(o:Oper)(K:St->Prop)(st:St):Prop:=QK P false o K st∨UQ P o K st
theorem Adb(hr:Rel c st a w F M)(h:Yt P o K st)(Q:Exit->Act->World->Prop):o.wp P a w (Good c K) Q:=h.elim (λ h=>QH hr h Q) λ h=>Pf hr h Q
end
end Go.Am
namespace Go.Am
open Go
structure Lj(st st':St):Prop where
 n:st'.n=st.n
 env:∀t,get st'.env t=get st.env t
 hp:∀id,get st'.hp id=get st.hp id
theorem Lj.refl(st:St):Lj st st:=⟨rfl,λ _=>rfl,λ _=>rfl⟩
theorem Lj.symm{a b:St}(h:Lj a b):Lj b a:=⟨h.n.symm,λ t=>(h.env t).symm,λ t=>(h.hp t).symm⟩
theorem Lj.trans{a b c:St}(h:Lj a b)(h':Lj b c):Lj a c:=⟨h'.n.trans h.n,λ t=>(h'.env t).trans (h.env t),λ t=>(h'.hp t).trans (h.hp t)⟩
theorem Rel.eqv{c:Ctx}{st st':St}{a:Act}{w:World}{F:Nat->Prop}{M:Nat->Mb}(hr:Rel c st a w F M)(h:Lj st st'):Rel c st' a w F M:=by
 have hs:sg st'.hp=sg st.hp:=funext λ id=>by unfold sg;rw[h.hp]
 refine ⟨λ t d ht=>?_,by rw[h.n];exact hr.size,hr.defers,?_,?_⟩
 . rw[hs];exact hr.env t d (by rw[<-h.env];exact ht)
 . exact ⟨λ id o ho=>by rw[hs];exact hr.heap.obj id o (by rw[<-h.hp];exact ho),λ id o Pk o' b ho NH=>hr.heap.inj id o Pk o' b (by rw[<-h.hp];exact ho) (by rw[<-h.hp];exact NH)⟩
 . have hk:=hr.CR;exact ⟨hk.os,hk.tape,hk.output,hk.size,hk.NA,hk.F0,hk.Fn,hk.Fl,λ b ⟨id,o,ho,h1⟩=>hk.own b ⟨id,o,by rw[<-h.hp];exact ho,h1⟩,by rw[hs];exact hk.W5,hk.s0b⟩
def SL(K:St->Prop):Prop:=∀st st',Lj st st'->K st->K st'
def Avm(K:St->Prop):St->Prop:=λ st=>∃st',Lj st st'/\K st'
theorem SL.of(K:St->Prop):SL (Avm K):=λ _ _ h ⟨s,h1,h2⟩=>⟨s,h.symm.trans h1,h2⟩
theorem XO{st st':St}(h:Lj st st')(x:Operand):ev st' x=ev st x:=by
 cases x<;>simp only[ev,h.env]
theorem Hu{st:St}{t:Option Nat}{d:D}(q:Nat):get (st.put t d).env q=if t=some q/\q<st.n then some d else get st.env q:=by
 cases t with
 | none=>simp[St.put]
 | some t=>
   simp only[St.put];by_cases ht:t<st.n
   . rw[if_pos ht];simp only[Ct,An];by_cases e:t=q
     . subst e;simp[ht]
     . simp[e]
   . rw[if_neg ht];by_cases e:t=q
     . subst e;simp[ht]
     . simp[e]
theorem Jx(st:St)(t:Option Nat)(d:D):(st.put t d).n=st.n:=by
 cases t with
 | none=>rfl
 | some t=>simp only[St.put];split<;>rfl
theorem Lj.put{st st':St}(h:Lj st st')(t:Option Nat)(d:D):Lj (st.put t d) (st'.put t d):=by
 refine ⟨by rw[Jx,Jx];exact h.n,λ q=>?_,λ id=>by rw[Ds,Ds];exact h.hp id⟩;rw[Hu,Hu,h.n,h.env]
theorem Lj.heap{st st':St}(h:Lj st st'){x x':Hp}(hx:∀id,get x' id=get x id):Lj {st with hp:=x} {st' with hp:=x'}:=⟨h.n,h.env,hx⟩
theorem Lj.swap{st:St}{t u:Option Nat}{d x:D}(Dl:∀q,t=some q->u≠some q):Lj ((st.put t d).put u x) ((st.put u x).put t d):=by
 refine ⟨by simp only[Jx],λ q=>?_,λ id=>by simp only[Ds]⟩;simp only[Hu,Jx];by_cases h1:t=some q/\q<st.n
 . rw[if_pos h1];have:=Dl q h1.1;simp[this,h1]
 . rw[if_neg h1];by_cases h2:u=some q/\q<st.n
   . simp[h2,h1]
   . simp[h2,h1]
section
variable {P:Program}
def Looks(l:List Oper)(o:Oper)(st st':St):Prop:=(∀x∈o.op.operands.toList,ev st' x=ev st x)/\Kl st' l o.guard=Kl st l o.guard
theorem Acg{st st':St}:∀{l:List Operand},(∀x∈l,ev st' x=ev st x)->l.map (ev st')=l.map (ev st)
 | [],_=>rfl
 | x::r,h=>by simp only[AH,h x (by simp),Acg (l:=r) (λ y hy=>h y (by simp[hy]))]
theorem Xp{st st':St}:∀{l:List (Nat×Operand)},(∀x∈l.map (·.2),ev st' x=ev st x)->l.map (λ q=>(q.1,ev st' q.2))=l.map (λ q=>(q.1,ev st q.2))
 | [],_=>rfl
 | x::r,h=>by simp only[AH,h x.2 (by simp),Xp (l:=r) (λ y hy=>h y (by simp only[AH,AG];exact .inr hy))]
theorem LU{st st':St}{o:Option Operand}{n:Int}(h:∀x∈o.toList,ev st' x=ev st x):Ea st' o n=Ea st o n:=by
 cases o with
 | none=>rfl
 | some x=>simp only[Ea,h x (by simp)]
theorem NO{st st':St}{o:Oper}(h:∀x∈o.op.operands.toList,ev st' x=ev st x)(hp:st'.hp=st.hp):Kn P st' o=Kn P st o:=by
 unfold Kn;generalize o.op=op at h;cases op with
 | call c=>
   simp only;cases hc:c.callee with
   | builtin b=>
     simp only;have:c.args.toList.map (ev st')=c.args.toList.map (ev st):=Acg λ x hx=>h x (by simp[Op.operands,Call.operands,hc];simpa using hx);rw[this];unfold E9;rw[hp]
   | _=>rfl
 | slice t x lo hi mx=>
   have h1:ev st' x=ev st x:=h x (by simp[Op.operands]);have h2:∀n,Ea st' lo n=Ea st lo n:=λ n=>LU λ y hy=>h y (by simp[Op.operands];cases lo<;>simp_all);have h3:∀n,Ea st' hi n=Ea st hi n:=λ n=>LU λ y hy=>h y (by simp[Op.operands];cases hi<;>simp_all);have h4:∀m n,mx=some m->Ea st' (some m) n=Ea st (some m) n:=λ m n hm=>LU λ y hy=>h y (by simp[Op.operands];simp_all);have:HO P st' t (ev st x) lo hi mx=HO P st t (ev st x) lo hi mx:=by
     unfold HO;simp only[h2,h3,hp];cases mx with
     | none=>rfl
     | some m=>simp only[h4 m _ rfl]
   simp only[J7,h1,this,hp]
 | build t ps=>
   have h1:ps.toList.map (λ q=>(q.1,ev st' q.2))=ps.toList.map (λ q=>(q.1,ev st q.2)):=Xp λ x hx=>h x (by simpa [Op.operands] using hx);simp only[J7,UH,h1,hp]
 | buildSlice t n ps=>
   have h1:ps.toList.map (λ q=>(q.1,ev st' q.2))=ps.toList.map (λ q=>(q.1,ev st q.2)):=Xp λ x hx=>h x (by simpa [Op.operands] using hx);simp only[Lz,h1,hp]
 | makeFunc fn first cap=>
   have h1:cap.toList.map (ev st')=cap.toList.map (ev st):=Acg λ x hx=>h x (by simp[Op.operands];exact .inr (by simpa using hx));cases fn<;>simp only[J7,h1,hp]
 | makeMap t r=>cases r<;>simp only[Lz,hp]
 | _=>simp[Op.operands] at h<;>simp only[J7,Lz,h,hp]
theorem k8{st st':St}{o:Oper}{f:Operand}{args:List Operand}(hc:De o.op=some (f,args))(h:∀x∈o.op.operands.toList,ev st' x=ev st x)(hp:st'.hp=st.hp):G9 st' f args=G9 st f args:=by
 unfold De at hc;split at hc
 case h_2=>cases hc
 rename_i cl P5;split at hc
 case h_2=>cases hc
 rename_i f' hf';simp only[An,BV] at hc;obtain ⟨rfl,rfl⟩:=hc;rw[P5] at h;have h1:ev st' f'=ev st f':=h f' (by simp[Op.operands,Call.operands,hf']);have h2:cl.args.toList.map (ev st')=cl.args.toList.map (ev st):=Acg λ x hx=>h x (by simp[Op.operands,Call.operands,hf'];exact .inr (by simpa using hx));unfold G9;rw[h1,h2,hp]
theorem QJ{st st':St}{o:Oper}{K K':St->Prop}(h:∀x∈o.op.operands.toList,ev st' x=ev st x)(hp:st'.hp=st.hp)
   (hK:∀y d,K (({st with hp:=y}:St).put o.dst d)->K' (({st' with hp:=y}:St).put o.dst d)) (hh:QK P false o K st):QK P false o K' st':=by
 unfold QK at*;split at hh
 . rename_i f args hc;rw[k8 hc h hp];rcases Rs.Gl hh with hh | hh
   case inr=>exact (AJ hh.1).elim
   simp only[LP] at hh ⊢;exact Rs.Fb (Rs.Cg (λ x hx=>Pa (λ d y hk=>hK y d hk) hx) hh)
 . rw[NO h hp];rcases Rs.Gl hh with hh | hh
   case inr=>exact (AJ hh.1).elim
   exact Rs.Fb (Rs.Cg (λ x hx=>hK _ _ hx) hh)
theorem Aim{st:St}{o:Oper}{K K':St->Prop}(hK:∀s,K s->K' s)(hh:QK P false o K st):QK P false o K' st:=
 QJ (λ _ _=>rfl) rfl (λ _ _ hk=>hK _ hk) hh
theorem Aph{st st':St}(he:Lj st st'){o:Oper}{K:St->Prop}(hs:SL K)(hh:QK P false o K st):QK P false o K st':=by
 have h1:QK P false o K {st' with hp:=st.hp}:=QJ (λ x _=>XO (st':={st' with hp:=st.hp}) ⟨he.n,he.env,λ _=>rfl⟩ x) rfl
   (λ y d hk=>hs _ _ (Lj.put (Lj.heap he λ _=>rfl) _ _) hk) hh
 have hx:HX [] st.hp st'.hp:=λ id=>by rw[he.hp];cases get st.hp id<;>rfl
 have h2:=Atf (env:=st'.env) (n:=st'.n) hx (λ id h=>(h rfl).elim) rfl h1;refine Aim (λ s ⟨y,hy,hk⟩=>?_) h2;have e:Lj {s with hp:=y} s:=by
   refine ⟨rfl,λ _=>rfl,λ id=>?_⟩;have:=hy id;simp only[get] at this;rw[this];cases get y id<;>rfl
 exact hs _ _ e hk
theorem Np{st st':St}{o:Oper}{K K':St->Prop}(h:∀x∈o.op.operands.toList,ev st' x=ev st x)(hp:st'.hp=st.hp)
   (hK:∀y d,K (({st with hp:=y}:St).put o.dst d)->K' (({st' with hp:=y}:St).put o.dst d)) (hh:Yt P o K st):Yt P o K' st':=by
 rcases hh with hh | hh
 . exact .inl (QJ h hp hK hh)
 . refine .inr (UP h (λ id=>by rw[hp]) (λ d hk=>?_) hh);have:=hK st.hp d hk;rw[<-hp] at this;exact this
theorem Hh{st:St}{o:Oper}{K K':St->Prop}(hK:∀s,K s->K' s)(hh:Yt P o K st):Yt P o K' st:=
 Np (λ _ _=>rfl) rfl (λ _ _ hk=>hK _ hk) hh
theorem Abw{st st':St}(he:Lj st st'){o:Oper}{K:St->Prop}(hs:SL K)(hh:Yt P o K st):Yt P o K st':=by
 rcases hh with hh | hh
 . exact .inl (Aph he hs hh)
 . exact .inr (UP (λ x _=>XO he x) he.hp (λ d hk=>hs _ _ (he.put _ _) hk) hh)
theorem Atd{env:List (Nat×D)}{n:Nat}{e h h':Hp}(hx:HX e h h')(he:∀id,get e id≠none->id<10000)(hn:IM h){o:Oper}(hq:isQ o.op=true)(ho:∀x∈o.op.operands.toList,GF h (ev ⟨env,h,n⟩ x)){K:St->Prop}(hh:Yt P o K ⟨env,h',n⟩):
   Yt P o (λ st=>(∃EB,HX e st.hp EB/\K {st with hp:=EB})/\EU (some (o.dst.getD 0)) h st.hp) ⟨env,h,n⟩:=
 hh.elim (λ hh=> .inl (Ate hx he hn hq ho hh)) λ hh=> .inr (As7 hx ho hh)
end
end Go.Am
namespace Go.Am
open Go
def FW:List D->Option (List Pd)
 | []=>some []
 | .p x::r=>(FW r).map (x:: ·)
 | .cl es::r=>(FW r).map (.sl es:: ·)
 | _::_=>none
def IL(P:Program)(st:St)(q:Nat)(op:Op):Rs (D×AO):=
 match op with
 | .alloc t=>match CG P t with
   | some ti=>match ti.zero.stored with
     | some cs=> .ret True (.ptr q 0,.box cs (npT t cs))
     | none=> .fail
   | none=> .fail
 | .box _ x=>match (ev st x).stored with
   | some cs=> .ret True (.ptr q 0,.box cs)
   | none=> .fail
 | .buildSlice t n parts=>match CG P t with
   | some ⟨_,_,.slice e,_⟩=>match CG P e with
     | some ti=>match GO (λ i=>some (i*ti.size,ti.size)) (List.replicate (n*ti.size) .bad) (parts.toList.map λ q=>(q.1,ev st q.2)) with
       | some cs=>if Xi ti cs=true then .fail else match FW cs with
         | some y=> .ret (0<ti.size/\n*ti.size<=16777216) (.ref q 0 n n,.arr e ti.size (chunk ti.size n y))
         | none=> .fail
       | none=> .fail
     | none=> .fail
   | _=> .fail
 | .makeSlice t l m=>match CG P t,ev st l,ev st m with
   | some ⟨_,_,.slice e,_⟩,.p (.int _ l),.p (.int _ m)=>match CG P e with
     | some ti=>if ti.k.Aqj=true then .fail else match FW ti.zero.cells with
       | some y=> .ret (0<ti.size/\(0<=l/\l<=m/\m*ti.bytes<=140737488355328/\m<=140737488355328)/\ti.zero.cells.length=ti.size) (.ref q 0 l.toNat l.toNat,.arr e ti.size (List.replicate l.toNat y))
       | none=> .fail
     | none=> .fail
   | _,_,_=> .fail
 | _=> .fail
def Gp(P:Program)(l:List Oper)(hR:Hp):List (Nat×Nat)->(St->Prop)->St->Prop
 | [],K,st=>K st
 | (i,kd)::r,K,st=>match l[i]? with
   | none=>False
   | some o=>FT st l o.guard (match kd with
     | 0=>(Kn P {st with hp:=hR} o).all λ x=>Gp P l hR r K (st.put o.dst x.1)
     | 1=>(IL P st (o.dst.getD 0) o.op).all λ x=>get st.hp (o.dst.getD 0)=none/\Gp P l hR r K (({st with hp:=(o.dst.getD 0,x.2)::st.hp}:St).put o.dst x.1)
     | 2=>Yt P o (λ s=>C3 s.hp hR/\Gp P l hR r K s) st
     | _=>Yt P o (Gp P l hR r K) st) (Gp P l hR r K (st.put o.dst (.Dr [])))
theorem Rs.leaf{α:Type}{k:α->Prop}:∀{r:Rs α},r.all k->∃a,k a/\∀k':α->Prop,k' a->r.all k'
 | .fail,h=>h.elim
 | .ret p a,h=>⟨a,h.2,λ _ hk=>⟨h.1,hk⟩⟩
 | .split b x y,h=>by
   cases b
   . obtain ⟨a,h1,h2⟩:=Rs.leaf (h.2 rfl);exact ⟨a,h1,λ k' hk=>⟨λ e=>(AJ e).elim,λ _=>h2 k' hk⟩⟩
   . obtain ⟨a,h1,h2⟩:=Rs.leaf (h.1 rfl);exact ⟨a,h1,λ k' hk=>⟨λ _=>h2 k' hk,λ e=>(AJ e.symm).elim⟩⟩
theorem G7(st:St)(l:List Oper)(g:Option (Nat×Bool))(yes no:Prop):FT st l g yes no=match Kl st l g with
   | .yes=>yes
   | .no=>no
   | .cond b=>WT b yes no
   | .bad=>False:=by
 unfold FT Kl;cases g with
 | none=>rfl
 | some g=>
   obtain ⟨j,want⟩:=g;simp only;cases ((l[j]?).bind (·.dst)).bind (get st.env) with
   | none=>rfl
   | some d=>cases d with
     | p q=>cases q<;>rfl
     | Dr cs=>cases cs<;>rfl
     | _=>rfl
theorem Sa{st:St}{l:List Oper}{g:Option (Nat×Bool)}{yes no:Prop}(h:FT st l g yes no):
   (yes/\∀(st':St) (y n:Prop),Kl st' l g=Kl st l g->y->FT st' l g y n)∨(no/\∀(st':St) (y n:Prop),Kl st' l g=Kl st l g->n->FT st' l g y n):=by
 rw[G7] at h;cases hg:Kl st l g with
 | yes=>rw[hg] at h;exact .inl ⟨h,λ st' y n e hy=>by rw[G7,e];exact hy⟩
 | no=>rw[hg] at h;exact .inr ⟨h,λ st' y n e hy=>by rw[G7,e];exact hy⟩
 | bad=>rw[hg] at h;exact h.elim
 | cond b=>
   rw[hg] at h;cases b
   . exact .inr ⟨h.2 rfl,λ st' y n e hy=>by rw[G7,e];exact ⟨λ e=>(AJ e).elim,λ _=>hy⟩⟩
   . exact .inl ⟨h.1 rfl,λ st' y n e hy=>by rw[G7,e];exact ⟨λ _=>hy,λ e=>(AJ e.symm).elim⟩⟩
theorem DC{st st':St}{l:List Oper}{g:Option (Nat×Bool)}{yes no Aw6 no':Prop}(e:Kl st' l g=Kl st l g)(hy:yes->Aw6)(hn:no->no')(h:FT st l g yes no):FT st' l g Aw6 no':=by
 rcases Sa h with ⟨h1,h2⟩ | ⟨h1,h2⟩
 . exact h2 st' _ _ e (hy h1)
 . exact h2 st' _ _ e (hn h1)
section
variable {P:Program} {l:List Oper} {hR:Hp}
theorem Alk{st st':St}(h:Lj st st')(g:Option (Nat×Bool)):Kl st' l g=Kl st l g:=by
 unfold Kl;have:get st'.env=get st.env:=funext h.env;rw[this]
theorem LW{st st':St}{q:Nat}{op:Op}(h:∀x∈op.operands.toList,ev st' x=ev st x):IL P st' q op=IL P st q op:=by
 unfold IL;cases op with
 | box t x=>simp only[h x (by simp[Op.operands])]
 | buildSlice t n ps=>
   have h1:ps.toList.map (λ q=>(q.1,ev st' q.2))=ps.toList.map (λ q=>(q.1,ev st q.2)):=Xp λ x hx=>h x (by simpa [Op.operands] using hx);simp only[h1]
 | makeSlice t l m=>simp only[h l (by simp[Op.operands]),h m (by simp[Op.operands])]
 | _=>rfl
theorem Ls:∀{cs:List D} {y:List Pd},FW cs=some y->∀(h:Hp) (k:List Pd×Hp->Prop),k (y,h)->(Ik h cs).all k
 | [],y,hp,h,k,hk=>by simp only[FW,An] at hp;subst hp;exact ⟨trivial,hk⟩
 | .p x::r,y,hp,h,k,hk=>by
   simp only[FW,BO] at hp;obtain ⟨z,hz,rfl⟩:=hp;exact Rs.CK ⟨trivial,Rs.CK (Ls hz h _ ⟨trivial,hk⟩)⟩
 | .cl es::r,y,hp,h,k,hk=>by
   simp only[FW,BO] at hp;obtain ⟨z,hz,rfl⟩:=hp;exact Rs.CK ⟨trivial,Rs.CK (Ls hz h _ ⟨trivial,hk⟩)⟩
 | .agg _::r,y,hp,h,k,hk=>by simp[FW] at hp
 | .Dr _::r,y,hp,h,k,hk=>by simp[FW] at hp
 | .cz _::r,y,hp,h,k,hk=>by simp[FW] at hp
 | .ref _ _ _ _::r,y,hp,h,k,hk=>by simp[FW] at hp
 | .ptr _ _::r,y,hp,h,k,hk=>by simp[FW] at hp
 | .pe _::r,y,hp,h,k,hk=>by simp[FW] at hp
 | .ea _ _ _ _::r,y,hp,h,k,hk=>by simp[FW] at hp
 | .fn _ _::r,y,hp,h,k,hk=>by simp[FW] at hp
 | .np::r,y,hp,h,k,hk=>by simp[FW] at hp
 | .mv _::r,y,hp,h,k,hk=>by simp[FW] at hp
 | .Dt _ _::r,y,hp,h,k,hk=>by simp[FW] at hp
 | .MG _ _ _::r,y,hp,h,k,hk=>by simp[FW] at hp
 | .nr _ _ _ _::r,y,hp,h,k,hk=>by simp[FW] at hp
 | .Sq::r,y,hp,h,k,hk=>by simp[FW] at hp
 | .bad::r,y,hp,h,k,hk=>by simp[FW] at hp
theorem WS{st:St}{o:Oper}{K:St->Prop}(h:(IL P st (o.dst.getD 0) o.op).all λ x=>get st.hp (o.dst.getD 0)=none/\K (({st with hp:=(o.dst.getD 0,x.2)::st.hp}:St).put o.dst x.1)):
   De o.op=none/\Kn P st o=Lz P st (o.dst.getD 0) o.op/\(Lz P st (o.dst.getD 0) o.op).all λ x=>K (({st with hp:=x.2}:St).put o.dst x.1):=by
 unfold IL at h;unfold Kn De;split at h
 . rename_i t ho;simp only[ho,true_and];split at h
   . rename_i h1;split at h
     . rename_i h2;simp only[Lz,h1,h2];exact ⟨h.2.1,h.2.2⟩
     . exact h.elim
   . exact h.elim
 . rename_i t x ho;simp only[ho,true_and];split at h
   . rename_i h2;simp only[Lz,h2];exact ⟨h.2.1,h.2.2⟩
   . exact h.elim
 . rename_i t n parts ho;simp only[ho,true_and];split at h
   . rename_i h1;split at h
     . rename_i h2;split at h
       . rename_i h3;split at h
         . exact h.elim
         rename_i hnr;split at h
         . rename_i h4;simp only[Lz,h1,h2,h3,if_neg hnr];exact Rs.CK (Ls h4 _ _ ⟨⟨h.1.1,h.1.2,h.2.1⟩,h.2.2⟩)
         . exact h.elim
       . exact h.elim
     . exact h.elim
   . exact h.elim
 . rename_i t l m ho;simp only[ho,true_and];split at h
   . rename_i h1 h2 h3;split at h
     . rename_i h4;split at h
       . exact h.elim
       rename_i hnr;split at h
       . rename_i h5;simp only[Lz,h1,h2,h3,h4,if_neg hnr];exact Rs.CK (Ls h5 _ _ ⟨⟨h.1.1,h.2.1,h.1.2.1,h.1.2.2⟩,h.2.2⟩)
       . exact h.elim
     . exact h.elim
   . exact h.elim
 . exact h.elim
theorem C3.congr{h h2:Hp}(he:∀id,get h2 id=get h id):∀{h1:Hp},C3 h h1->C3 h2 h1
 | [],_=>trivial
 | (id,o)::r,hl=>⟨by rw[he];exact hl.1,C3.congr he hl.2⟩
theorem Ib{K:St->Prop}(hK:SL K):∀(r:List (Nat×Nat)),SL (Gp P l hR r K)
 | []=>hK
 | (i,kd)::r=>by
   intro st st' he h;have ih:=Ib hK r;simp only[Gp] at h ⊢;split at h
   . exact h.elim
   . rename_i o ho;(try simp only[ho]);refine DC (Alk he _) (λ hy=>?_) (λ hn=>ih _ _ (he.put _ _) hn) h;split at hy
     . rw[NO (st:={st with hp:=hR}) (st':={st' with hp:=hR}) (λ x _=>XO (he.heap (x:=hR) (x':=hR) λ _=>rfl) x) rfl];exact Rs.Cg (λ x hx=>ih _ _ (he.put _ _) hx) hy
     . rw[LW (st:=st) (λ x _=>XO he x)];refine Rs.Cg (λ x hx=>⟨by rw[he.hp];exact hx.1,ih _ _ (Lj.put (he.heap λ id=>?_) _ _) hx.2⟩) hy;simp only[Ct,he.hp]
     . exact Abw he (λ s s' hs hh=>⟨hh.1.congr hs.hp,ih _ _ hs hh.2⟩) hy
     . exact Abw he ih hy
end
end Go.Am
namespace Go.Am
open Go
section
variable {P:Program} {l:List Oper} {hR:Hp}
theorem C3.hx{h:Hp}(hl:C3 h hR):HX h hR h:=by
 intro id;cases hg:get hR id with
 | none=>rfl
 | some o=>exact hl.spec id o hg
theorem Zi{o:Oper}(hv:Oh o.op=true):De o.op=none:=by
 unfold De;split
 . rename_i c hc;rw[hc] at hv;split
   . rename_i f hf;simp[Oh,hf] at hv
   . rfl
 . rfl
theorem Aol{env:List (Nat×D)}{n:Nat}{e h h':Hp}(hx:HX e h h'){q:Nat}{b:Builtin}(hb:b≠ .append)(r7:b≠ .copy){ts:Array TypeId}{args:List D}{k:D->Prop}(hh:(E9 P ⟨env,h,n⟩ q b ts args).all (λ x=>k x.1)):
   (E9 P ⟨env,h',n⟩ q b ts args).all (λ y=>y.2=h'/\k y.1):=by
 unfold E9 at*;split at hh
 . split at hh
   . refine Rs.CK (Rs.Cg (λ y hy=>?_) (Acj hx (Rs.all_bind hh)));exact ⟨hy.1,rfl,hy.2⟩
   . exact hh.elim
 . exact (hb rfl).elim
 . exact (r7 rfl).elim
 . exact ⟨hh.1,rfl,hh.2⟩
 . exact ⟨hh.1,rfl,hh.2⟩
 . exact hh.elim
theorem doV{env:List (Nat×D)}{n:Nat}{e h h':Hp}(hx:HX e h h'){o:Oper}(hv:Oh o.op=true){k:D->Prop}(hh:(Kn P ⟨env,h,n⟩ o).all (λ x=>k x.1)):(Kn P ⟨env,h',n⟩ o).all (λ x=>x.2=h'/\k x.1):=by
 have val:∀{op:Op},((J7 P ⟨env,h,n⟩ op).bind λ d=> .ret True (d,h)).all (λ x=>k x.1)->((J7 P ⟨env,h',n⟩ op).bind λ d=> .ret True (d,h')).all (λ x=>x.2=h'/\k x.1):=λ hv=>
   Rs.CK (Rs.Cg (λ d hd=>⟨hd.1,rfl,hd.2⟩) (Abx hx (Rs.all_bind hv)))
 unfold Kn at*;generalize o.op=op at hv hh ⊢;cases op with
 | call c=>
   cases hc:c.callee with
   | builtin b=>
     simp only[hc] at hh ⊢;exact Aol hx (λ e=>by subst e;simp[Oh,hc] at hv) (λ e=>by subst e;simp[Oh,hc] at hv) hh
   | _=>simp only[hc] at hh;exact hh.elim
 | alloc _=>simp[Oh] at hv
 | box _ _=>simp[Oh] at hv
 | store _ _ _=>simp[Oh] at hv
 | buildSlice _ _ _=>simp[Oh] at hv
 | makeSlice _ _ _=>simp[Oh] at hv
 | makeMap _ _=>simp[Oh] at hv
 | mapUpdate _ _ _ _=>simp[Oh] at hv
 | _=>exact val hh
theorem QI{st:St}{o:Oper}{K:St->Prop}(hc:De o.op=none)(h:(Kn P st o).all λ x=>K (({st with hp:=x.2}:St).put o.dst x.1)):QK P false o K st:=by
 unfold QK;rw[hc];exact Rs.Fb h
theorem eff{i kd:Nat}{r:List (Nat×Nat)}{K:St->Prop}{st:St}{o:Oper}(ho:l[i]?=some o)(hk:kd=0∨kd=1)(hv:kd=0->Oh o.op=true)(h:Gp P l hR ((i,kd)::r) K st):
   ∃(e:Hp) (d:D),(e=[]∨(kd=1/\∃ao,e=[(o.dst.getD 0,ao)]))/\(∀x∈e,get st.hp x.1=none)/\Gp P l hR r K (({st with hp:=e++st.hp}:St).put o.dst d)/\
     (∀(s:St) (r':List (Nat×Nat)) (K':St->Prop),Looks l o st s->(∀x∈e,get s.hp x.1=none)->Gp P l hR r' K' (({s with hp:=e++s.hp}:St).put o.dst d)->Gp P l hR ((i,kd)::r') K' s)/\
     (∀(c:Ctx) (a:Act) (w:World) (F:Nat->Prop) (M:Nat->Mb),Rel c st a w F M->(kd=0->C3 st.hp hR)->∃a' w' F' M',Rel c (({st with hp:=e++st.hp}:St).put o.dst d) a' w' F' M'):=by
 simp only[Gp,ho] at h;rcases Sa h with ⟨hy,G6⟩ | ⟨hn,G6⟩
 . rcases hk with rfl | rfl
   . simp only at hy;obtain ⟨x,hx,hb⟩:=Rs.leaf hy;refine ⟨[],x.1,.inl rfl,(λ y hy=>by cases hy),hx,λ s r' K' hl _ hg=>?_,λ c a w F M hr hle=>?_⟩
     . simp only[Gp,ho];refine G6 s _ _ hl.2 ?_;(try simp only);rw[NO (st:={st with hp:=hR}) (st':={s with hp:=hR}) (λ x hx=>hl.1 x hx) rfl];exact hb _ hg
     . have h1:(Kn P ⟨st.env,hR,st.n⟩ o).all (λ y=>(λ d=>d=x.1) y.1):=hb (λ y=>y.1=x.1) rfl;have h2:=doV (k:=λ d=>d=x.1) (hle rfl).hx (hv rfl) h1;have h3:QK P false o (λ s=>s=st.put o.dst x.1) st:=QI (Zi (hv rfl)) (Rs.Cg (λ y hy=>by
         obtain ⟨e1,e2⟩:=hy;rw[e1,e2]) h2)
       obtain ⟨d,v,e1,hd,_⟩:=Aev hr (hv rfl) h3;have:=hr.put hd o.dst;rw[e1] at this;exact ⟨_,w,F,M,this⟩
   . simp only at hy;obtain ⟨x,hx,hb⟩:=Rs.leaf hy;refine ⟨[(o.dst.getD 0,x.2)],x.1,.inr ⟨rfl,x.2,rfl⟩,(λ y hy=>by simp only[Aw] at hy;subst hy;exact hx.1),hx.2,λ s r' K' hl hf hg=>?_,λ c a w F M hr _=>?_⟩
     . simp only[Gp,ho];refine G6 s _ _ hl.2 ?_;(try simp only);rw[LW (st:=st) (λ x hx=>hl.1 x hx)];exact hb _ ⟨hf (o.dst.getD 0,x.2) (by simp),hg⟩
     . obtain ⟨_,_,h1⟩:=WS (K:=λ s=>s=({st with hp:=(o.dst.getD 0,x.2)::st.hp}:St).put o.dst x.1) (hb (λ y=>get st.hp (o.dst.getD 0)=none/\({st with hp:=(o.dst.getD 0,y.2)::st.hp}:St).put o.dst y.1=({st with hp:=(o.dst.getD 0,x.2)::st.hp}:St).put o.dst x.1) ⟨hx.1,rfl⟩);obtain ⟨d,h',v,w',F',M',e1,J2,_,hd,_⟩:=Gn hr (o:=o) (k:=λ d h=>({st with hp:=h}:St).put o.dst d=({st with hp:=(o.dst.getD 0,x.2)::st.hp}:St).put o.dst x.1) (Im h1);have:=J2.put hd o.dst;(try simp only at e1);rw[e1] at this;exact ⟨_,w',F',M',this⟩
 . refine ⟨[],.Dr [],.inl rfl,(λ y hy=>by cases hy),hn,λ s r' K' hl _ hg=>?_,λ c a w F M hr _=>?_⟩
   . simp only[Gp,ho];exact G6 s _ _ hl.2 hg
   . exact ⟨_,w,F,M,hr.put (.Dr [] #[] rfl (λ i d hd=>by simp at hd)) o.dst⟩
end
end Go.Am
namespace Go.Am
open Go
structure Ap(l:List Oper)(x y:Oper):Prop where
 a:∀d,x.dst=some d->d∉y.looksAt l.toArray
 b:∀d,x.dst=some d->y.dst≠some d
 c:∀d,y.dst=some d->d∉x.looksAt l.toArray
section
variable {P:Program} {l:List Oper} {hR:Hp}
theorem FL{o:Oper}{st:St}{t:Option Nat}{d:D}{h:Hp}(hn:∀q,t=some q->q∉o.looksAt l.toArray):Looks l o st (({st with hp:=h}:St).put t d):=by
 refine ⟨λ x hx=>?_,?_⟩
 . cases x with
   | tmp q=>
     simp only[ev,Hu];rw[if_neg];rintro ⟨e,_⟩;refine hn q e ?_;unfold Oper.looksAt;exact BM _ (List.mem_filterMap.2 ⟨.tmp q,hx,rfl⟩)
   | _=>rfl
 . unfold Kl;cases hg:o.guard with
   | none=>rfl
   | some g=>
     obtain ⟨j,want⟩:=g;simp only;cases hj:(l[j]?).bind (·.dst) with
     | none=>rfl
     | some q=>
       have:get (({st with hp:=h}:St).put t d).env q=get st.env q:=by
         rw[Hu,if_neg];rintro ⟨e,_⟩;refine hn q e ?_;unfold Oper.looksAt;refine List.mem_append_right _ ?_;rw[hg];simp[hj]
       simp only[Aa,this]
theorem Looks.trans{o:Oper}{a b c:St}(h:Looks l o a b)(h':Looks l o b c):Looks l o a c:=⟨λ x hx=>(h'.1 x hx).trans (h.1 x hx),h'.2.trans h.2⟩
theorem Looks.heap{o:Oper}{a b:St}(h:Looks l o a b)(x y:Hp):Looks l o {a with hp:=x} {b with hp:=y}:=by
 refine ⟨λ z hz=>?_,?_⟩
 . have:=h.1 z hz;cases z<;>exact this
 . exact h.2
theorem SR{st:St}{e:Hp}{t u:Option Nat}{d x:D}(Dl:∀q,t=some q->u≠some q):
   Lj ((({st with hp:=e++st.hp}:St).put t d).put u x) (({(st.put u x) with hp:=e++(st.put u x).hp}:St).put t d):=by
 have h1:Lj ((({st with hp:=e++st.hp}:St).put t d).put u x) ((({st with hp:=e++st.hp}:St).put u x).put t d):=Lj.swap Dl;refine h1.trans (Lj.put ?_ _ _);refine ⟨by simp only[Jx],λ q=>?_,λ id=>?_⟩
 . simp only[Hu]
 . simp only[Ds]
theorem Asi{K:St->Prop}(hK:SL K){j:Nat}{oj:Oper}(hj:l[j]?=some oj)(post:List (Nat×Nat)):∀(pre:List (Nat×Nat)) {st:St},Gp P l hR (pre++(j,0)::post) K st->
   (∀x∈pre,(x.2=0∨x.2=1)/\∃oi,l[x.1]?=some oi/\(x.2=0->Oh oi.op=true)/\Ap l oi oj)->
   FT st l oj.guard ((Kn P {st with hp:=hR} oj).all λ x=>Gp P l hR (pre++post) K (st.put oj.dst x.1)) (Gp P l hR (pre++post) K (st.put oj.dst (.Dr [])))
 | [],st,h,_=>by
   simp only[Bs,Gp,hj] at h;exact h
 | (i,ki)::pre,st,h,hp=>by
   obtain ⟨hk,oi,ho,hv,XH⟩:=hp (i,ki) (by simp);obtain ⟨e,d,he,hf,hg,G6,_⟩:=eff ho hk hv h;have ih:=Asi hK hj post pre hg (λ x hx=>hp x (by simp[hx]));have hlk:Looks l oj st (({st with hp:=e++st.hp}:St).put oi.dst d):=FL XH.a;have go:∀x:D,Gp P l hR (pre++post) K ((({st with hp:=e++st.hp}:St).put oi.dst d).put oj.dst x)->Gp P l hR ((i,ki)::(pre++post)) K (st.put oj.dst x):=by
     intro x hx;refine G6 _ _ _ (FL (h:=st.hp) XH.c) (λ y hy=>by rw[Ds];exact hf y hy) (Ib hK _ _ _ (SR XH.b) hx)
   refine DC hlk.2.symm (λ hy=>?_) (λ hn=>go _ hn) ih;rw[NO (st:={st with hp:=hR}) (λ x hx=>(hlk.heap hR hR).1 x hx) rfl] at hy;exact Rs.Cg (λ x hx=>go _ hx) hy
theorem Asj{K:St->Prop}(hK:SL K){j:Nat}{oj:Oper}(hj:l[j]?=some oj)(post:List (Nat×Nat)):∀(pre:List (Nat×Nat)) {st:St},Gp P l hR (pre++(j,1)::post) K st->
   (∀x∈pre,(x.2=0∨x.2=1)/\∃oi,l[x.1]?=some oi/\(x.2=0->Oh oi.op=true)/\Ap l oi oj/\(x.2=1->oi.dst.getD 0≠oj.dst.getD 0))->
   FT st l oj.guard ((IL P st (oj.dst.getD 0) oj.op).all λ x=>get st.hp (oj.dst.getD 0)=none/\Gp P l hR (pre++post) K (({st with hp:=(oj.dst.getD 0,x.2)::st.hp}:St).put oj.dst x.1)) (Gp P l hR (pre++post) K (st.put oj.dst (.Dr [])))
 | [],st,h,_=>by
   simp only[Bs,Gp,hj] at h;exact h
 | (i,ki)::pre,st,h,hp=>by
   obtain ⟨hk,oi,ho,hv,XH,Aqx⟩:=hp (i,ki) (by simp);obtain ⟨e,d,he,hf,hg,G6,_⟩:=eff ho hk hv h;have ih:=Asj hK hj post pre hg (λ x hx=>hp x (by simp[hx]));have hlk:Looks l oj st (({st with hp:=e++st.hp}:St).put oi.dst d):=FL XH.a;have Zr:∀y∈e,y.1≠oj.dst.getD 0:=by
     intro y hy;rcases he with rfl | ⟨h1,ao,rfl⟩
     . cases hy
     . simp only[Aw] at hy;subst hy;exact Aqx h1
   refine DC hlk.2.symm (λ hy=>?_) (λ hn=>?_) ih
   . rw[LW (st:=st) (λ x hx=>hlk.1 x hx)] at hy;refine Rs.Cg (λ x hx=>?_) hy;obtain ⟨h1,h2⟩:=hx;rw[Ds] at h1;simp only at h1;have Ab1:get st.hp (oj.dst.getD 0)=none:=by
       rcases he with rfl | ⟨_,ao,rfl⟩
       . exact h1
       . simp only[List.singleton_append,Ct] at h1;rw[if_neg (Zr (oi.dst.getD 0,ao) (by simp))] at h1;exact h1
     refine ⟨Ab1,?_⟩;refine G6 _ _ _ ((FL (h:=(oj.dst.getD 0,x.2)::st.hp) XH.c)) (λ y hy=>?_) ?_
     . rw[Ds];simp only[Ct];rw[if_neg (λ e2=>Zr y hy e2.symm)];exact hf y hy
     . refine Ib hK _ _ _ ?_ h2;have h3:=SR (st:={st with hp:=(oj.dst.getD 0,x.2)::st.hp}) (e:=e) (d:=d) (x:=x.1) XH.b;refine Lj.trans ?_ h3;refine ⟨by simp only[Jx],λ q=>by simp only[Hu,Jx],λ id=>?_⟩;simp only[Ds];rcases he with rfl | ⟨_,ao,rfl⟩
       . rfl
       . simp only[List.singleton_append,Ct];by_cases e1:oi.dst.getD 0=id
         . by_cases e2:oj.dst.getD 0=id
           . exact (Zr (oi.dst.getD 0,ao) (by simp) (e1.trans e2.symm)).elim
           . simp[e1,e2]
         . simp[e1]
   . refine G6 _ _ _ (FL (h:=st.hp) XH.c) (λ y hy=>by rw[Ds];exact hf y hy) (Ib hK _ _ _ (SR XH.b) hn)
end
end Go.Am
namespace Go.Am
open Go
theorem MM:∀{cs:List D} {id:Nat},id∈Du cs->∃(i:Nat) (c:D),cs[i]?=some c/\id∈c.ids
 | [],id,h=>by simp[Du] at h
 | d::r,id,h=>by
   simp only[Du,Av] at h;rcases h with h | h
   . exact ⟨0,d,rfl,h⟩
   . obtain ⟨i,c,h1,h2⟩:=MM h;exact ⟨i+1,c,by simpa using h1,h2⟩
theorem DR.Ats{F:Nat->Prop}{w:World}{M:Nat->Mb}{s:Nat->Option Sg}{d:D}{v:Value}(h:DR F w M s d v):∀id∈d.ids,s id≠none:=by
 induction h with
 | p _=>intro id hi;simp[D.ids] at hi
 | agg cs vs hl _ ih=>intro id hi;obtain ⟨i,c,h1,h2⟩:=MM hi;exact ih i c h1 id h2
 | Dr cs vs hl _ ih=>intro id hi;obtain ⟨i,c,h1,h2⟩:=MM hi;exact ih i c h1 id h2
 | cl es a _ _=>intro id hi;simp[D.ids] at hi
 | cz es a _=>intro id hi;simp[D.ids] at hi
 | ref id off len N sz n v hs _ _ _=>intro i hi;simp only[D.ids,Aw] at hi;subst hi;rw[hs];simp
 | ptr id off hs=>intro i hi;simp only[D.ids,Aw] at hi;subst hi;rw[hs];simp
 | pe _ _ _ _ _ _ _ _ _ _=>intro id hi;simp[D.ids] at hi
 | ea id i c N sz n v hs _ _ _=>intro i hi;simp only[D.ids,Aw] at hi;subst hi;rw[hs];simp
 | fn f cap vs hl _ ih=>intro id hi;obtain ⟨i,c,h1,h2⟩:=MM hi;exact ih i c h1 id h2
 | Sq _ _=>intro id hi;simp[D.ids] at hi
 | bad _=>intro id hi;simp[D.ids] at hi
 | np=>intro id hi;simp[D.ids] at hi
 | mv id hs=>intro i hi;simp only[D.ids,Aw] at hi;subst hi;rw[hs];simp
 | Dt id n sz m k v hs _ _ _=>intro i hi;simp only[D.ids,Aw] at hi;subst hi;rw[hs];simp
 | MG id i n sz m k b hs _ _ _=>intro i hi;simp only[D.ids,Aw] at hi;subst hi;rw[hs];simp
 | nr id i n q sz m k v hs _ _ _=>intro i hi;simp only[D.ids,Aw] at hi;subst hi;rw[hs];simp
section
variable {P:Program} {l:List Oper} {hR:Hp}
theorem Ac4{h:Hp}{id:Nat}:sg h id≠none->get h id≠none:=by
 intro hs hg;exact hs (by simp[sg,hg])
theorem Rel.nod{c:Ctx}{st:St}{a:Act}{w:World}{F:Nat->Prop}{M:Nat->Mb}(hr:Rel c st a w F M):IM st.hp/\∀x,GF st.hp (ev st x):=by
 refine ⟨λ id o ho i hi=>?_,λ x id hi=>Ac4 ((Ci hr x).Ats id hi)⟩;have hob:=hr.heap.obj id o ho;cases o with
 | box cs ty=>
   obtain ⟨_,row,t,_,_,hd⟩:=hob;obtain ⟨j,c,h1,h2⟩:=MM (cs:=cs) hi;exact Ac4 ((hd.1 j c h1).1.Ats i h2)
 | _=>simp[AO.ids] at hi
theorem C3.app{h e:Hp}(he:e=[]∨∃x,e=[x])(hf:∀x∈e,get h x.1=none):∀{h1:Hp},C3 h h1->C3 (e++h) h1
 | [],_=>trivial
 | (id,o)::r,hl=>by
   refine ⟨?_,C3.app he hf hl.2⟩;rcases he with rfl | ⟨x,rfl⟩
   . exact hl.1
   . simp only[List.singleton_append];rw[Ct,if_neg]
     . exact hl.1
     . intro e1;have:=hf x (by simp);rw[e1,hl.1] at this;cases this
theorem C3.Asb{h e y:Hp}(hx:HX e y h)(hf:∀x∈e,get y x.1=none)(he:e=[]∨∃x,e=[x]){st:Hp}(hs:∀x∈e,get st x.1=none):∀{h1:Hp},C3 st h1->C3 h h1->C3 y h1
 | [],_,_=>trivial
 | (id,o)::r,h0,hl=>by
   refine ⟨?_,C3.Asb hx hf he hs h0.2 hl.2⟩;have h1:=hl.1;rw[hx] at h1;cases hg:get y id with
   | some o2=>rw[hg] at h1;exact h1
   | none=>
     rw[hg] at h1;simp only at h1;rcases he with rfl | ⟨x,rfl⟩
     . cases h1
     . rw[Ct] at h1;split at h1
       . rename_i e1;have:=hs x (by simp);rw[e1,h0.1] at this;cases this
       . cases h1
theorem HX.app{h e:Hp}(he:e=[]∨∃x,e=[x])(hf:∀x∈e,get h x.1=none):HX e h (e++h):=by
 rcases he with rfl | ⟨⟨q,o⟩,rfl⟩
 . exact HX.refl h
 . exact HX.one (hf (q,o) (by simp))
theorem HX.Hv{h y e:Hp}(hx:HX e h y)(he:e=[]∨∃x,e=[x])(hf:∀x∈e,get h x.1=none)(id:Nat):get (e++h) id=get y id:=by
 rw[hx];rcases he with rfl | ⟨x,rfl⟩
 . simp only[Bs];cases get h id<;>rfl
 . simp only[List.singleton_append];rw[Ct];by_cases e1:x.1=id
   . have:=hf x (by simp);rw[e1] at this;rw[if_pos e1,this];simp[get,e1]
   . rw[if_neg e1];cases hg:get h id with
     | none=>simp[get,e1]
     | some o=>rfl
theorem Ajz{K:St->Prop}(hK:SL K){c:Ctx}{j kj:Nat}{oj:Oper}(hj:l[j]?=some oj)(hkj:kj=2∨kj=3)(hq:isQ oj.op=true)(post:List (Nat×Nat)):
   ∀(pre:List (Nat×Nat)) {st:St} {a:Act} {w:World} {F:Nat->Prop} {M:Nat->Mb},Rel c st a w F M->Gp P l hR (pre++(j,kj)::post) K st->(kj=2∨(∃x∈pre,x.2=0)->C3 st.hp hR)->
   (∀x∈pre,(x.2=0∨x.2=1)/\∃oi,l[x.1]?=some oi/\(x.2=0->Oh oi.op=true)/\Ap l oi oj/\(x.2=1->oi.dst.getD 0≠oj.dst.getD 0/\oi.dst.getD 0<10000))->
   FT st l oj.guard (Yt P oj (λ s=>(kj=2->C3 s.hp hR)/\Gp P l hR (pre++post) K s) st) (Gp P l hR (pre++post) K (st.put oj.dst (.Dr [])))
 | [],st,a,w,F,M,hr,h,hle,_=>by
   simp only[Bs,Gp,hj] at h;refine DC rfl (λ hy=>?_) id h;rcases hkj with rfl | rfl
   . exact Hh (λ s hs=>⟨λ _=>hs.1,hs.2⟩) hy
   . exact Hh (λ s hs=>⟨λ e=>(by cases e),hs⟩) hy
 | (i,ki)::pre,st,a,w,F,M,hr,h,hle,hp=>by
   obtain ⟨hk,oi,ho,hv,XH,Aqx⟩:=hp (i,ki) (by simp);obtain ⟨e,d,he,hf,hg,G6,Aui⟩:=eff ho hk hv h;have he':e=[]∨∃x,e=[x]:=by
     rcases he with h1 | ⟨_,ao,h1⟩
     . exact .inl h1
     . exact .inr ⟨_,h1⟩
   obtain ⟨a1,w1,F1,M1,Hy⟩:=Aui c a w F M hr (λ e0=>hle (.inr ⟨(i,ki),by simp,e0⟩));have ih:=Ajz hK hj hkj hq post pre Hy hg (λ hh=>by
     rw[Ds];refine C3.app he' hf (hle ?_);rcases hh with h1 | ⟨x,hx,hx0⟩
     . exact .inl h1
     . exact .inr ⟨x,by simp[hx],hx0⟩) (λ x hx=>hp x (by simp[hx]))
   have hlk:Looks l oj st (({st with hp:=e++st.hp}:St).put oi.dst d):=FL XH.a;refine DC hlk.2.symm (λ hy=>?_) (λ hn=>?_) ih
   . have h1:Yt P oj (λ s=>(kj=2->C3 s.hp hR)/\Gp P l hR (pre++post) K (s.put oi.dst d)) {st with hp:=e++st.hp}:=by
       refine Np (λ x hx=>(hlk.1 x hx).symm) (by rw[Ds]) (λ y x hk=>?_) hy;refine ⟨λ e2=>by have:=hk.1 e2;simp only[Ds] at this ⊢;exact this,?_⟩;refine Ib hK _ _ _ ?_ hk.2;have h2:Lj ((({st with hp:=y}:St).put oi.dst d).put oj.dst x) ((({st with hp:=y}:St).put oj.dst x).put oi.dst d):=Lj.swap XH.b;refine Lj.trans ?_ h2;refine ⟨by simp only[Jx],λ q=>by simp only[Hu,Jx],λ id=>by simp only[Ds]⟩
     obtain ⟨N5,hpr⟩:=hr.nod;have heN:∀id,get e id≠none->id<10000:=by
       intro id hid;rcases he with h1 | ⟨P1,ao,h1⟩
       . subst h1;exact (hid rfl).elim
       . subst h1;rw[Ct] at hid;split at hid
         . rename_i e1;subst e1;exact (Aqx P1).2
         . exact (hid rfl).elim
     have h2:=Atd (env:=st.env) (n:=st.n) (HX.app he' hf) heN N5 hq (λ x _=>hpr x) h1;refine Np (st:=st) (λ _ _=>rfl) rfl (λ y x hk=>?_) h2;obtain ⟨⟨EB,IB,Auq,Vo⟩,MQ⟩:=hk;rw[Ds] at IB MQ;simp only at IB MQ;have hfy:∀z∈e,get y z.1=none:=by
       intro z hz;cases hgz:get y z.1 with
       | none=>rfl
       | some o=>
         exfalso;rcases he with rfl | ⟨P1,ao,rfl⟩
         . cases hz
         . simp only[Aw] at hz;subst hz;obtain ⟨N8,IQ⟩:=Aqx P1;rcases MQ (oi.dst.getD 0) (by rw[hgz];simp) with h3 | h3 | h3
           . exact h3 (hf (oi.dst.getD 0,ao) (by simp))
           . exact N8 (Ac h3)
           . exact absurd IQ (Nat.not_lt.2 h3)
     refine ⟨λ e2=>by
       rw[Ds];exact C3.Asb IB hfy he' hf (hle (.inl e2)) (Auq e2),?_⟩
     refine G6 _ _ _ (FL (h:=y) XH.c) (λ z hz=>by rw[Ds];exact hfy z hz) ?_;refine Ib hK _ _ _ (Lj.put ?_ _ _) Vo;refine ⟨rfl,λ _=>rfl,λ id=>?_⟩;simp only[Ds];exact HX.Hv IB he' hfy id
   . refine G6 _ _ _ (FL (h:=st.hp) XH.c) (λ y hy=>by rw[Ds];exact hf y hy) (Ib hK _ _ _ (SR XH.b) hn)
end
end Go.Am
namespace Go.Am
open Go
def waits(o:Oper)(i:Nat):Bool:=o.after.toList.any λ e=>Region.binds .any e&&e.on==i
def We:Op->Bool
 | .move _ | .assign _ | .binOp _ _ _ _ _ | .unOp _ _ _ | .extract _ _=>true
 | _=>false
theorem Ahi{P:Program}{env:List (Nat×D)}{n:Nat}{h h':Hp}{o:Oper}(hv:We o.op=true){k:D->Prop}(hh:(Kn P ⟨env,h,n⟩ o).all (λ x=>k x.1)):(Kn P ⟨env,h',n⟩ o).all (λ x=>x.2=h'/\k x.1):=by
 have val:∀{op:Op},J7 P ⟨env,h',n⟩ op=J7 P ⟨env,h,n⟩ op->((J7 P ⟨env,h,n⟩ op).bind λ d=> .ret True (d,h)).all (λ x=>k x.1)->((J7 P ⟨env,h',n⟩ op).bind λ d=> .ret True (d,h')).all (λ x=>x.2=h'/\k x.1):=λ e hv=>by
   rw[e];exact Rs.CK (Rs.Cg (λ d hd=>⟨hd.1,rfl,hd.2⟩) (Rs.all_bind hv))
 unfold Kn at*;generalize o.op=op at hv hh ⊢;cases op with
 | move _=>exact val rfl hh
 | assign _=>exact val rfl hh
 | binOp _ _ _ _ _=>exact val rfl hh
 | unOp _ _ _=>exact val rfl hh
 | extract _ _=>exact val rfl hh
 | _=>simp[We] at hv
def Q2(l:List Oper)(x:Nat×Nat):Prop:=(x.2=0/\∀o,l[x.1]?=some o->We o.op=false)∨x.2=2
theorem Ash{P:Program}{l:List Oper}{hR:Hp}{K:St->Prop}(hK:SL K){j:Nat}{oj:Oper}(hj:l[j]?=some oj)(post:List (Nat×Nat)):∀(pre:List (Nat×Nat)) {st:St},Gp P l hR (pre++(j,4)::post) K st->
   (∀x∈pre,x.2=0/\∃oi,l[x.1]?=some oi/\Oh oi.op=true/\Ap l oi oj)->
   FT st l oj.guard (Yt P oj (Gp P l hR (pre++post) K) st) (Gp P l hR (pre++post) K (st.put oj.dst (.Dr [])))
 | [],st,h,_=>by
   simp only[Bs,Gp,hj] at h;exact h
 | (i,ki)::pre,st,h,hp=>by
   obtain ⟨hk,oi,ho,hv,XH⟩:=hp (i,ki) (by simp);obtain ⟨e,d,he,hf,hg,G6,_⟩:=eff ho (.inl hk) (λ _=>hv) h;obtain rfl:e=[]:=by
     rcases he with h1 | ⟨h1,_⟩
     . exact h1
     . simp only at hk;rw[hk] at h1;cases h1
   have ih:=Ash hK hj post pre hg (λ x hx=>hp x (by simp[hx]));have hlk:Looks l oj st (({st with hp:=[]++st.hp}:St).put oi.dst d):=FL XH.a;have go:∀(y:Hp) (x:D),Gp P l hR (pre++post) K ((({st with hp:=y}:St).put oi.dst d).put oj.dst x)->Gp P l hR ((i,ki)::(pre++post)) K (({st with hp:=y}:St).put oj.dst x):=by
     intro y x hx;refine G6 _ _ _ (FL (h:=y) XH.c) (λ z hz=>by cases hz) (Ib hK _ _ _ ?_ hx);have h2:Lj ((({st with hp:=y}:St).put oi.dst d).put oj.dst x) ((({st with hp:=y}:St).put oj.dst x).put oi.dst d):=Lj.swap XH.b;refine h2.trans ?_;refine ⟨by simp only[Jx],λ q=>by simp only[Hu,Jx],λ id=>by simp only[Ds,Bs]⟩
   refine DC hlk.2.symm (λ hy=>?_) (λ hn=>?_) ih
   . refine Np (λ x hx=>(hlk.1 x hx).symm) (by rw[Ds];rfl) (λ y x hk=>?_) hy;refine go y x (Ib hK _ _ _ ?_ hk);refine ⟨by simp only[Jx],λ q=>by simp only[Hu,Jx],λ id=>by simp only[Ds]⟩
   . exact go st.hp (.Dr []) (Ib hK _ _ _ ⟨by simp only[Jx],λ q=>by simp only[Hu,Jx,Bs],λ id=>by simp only[Ds,Bs]⟩ hn)
def WZ(l:List Oper):Nat->Nat->Nat->Bool
 | 0,_,_=>false
 | f+1,i,j=>match l[j]? with
   | some oj=>oj.after.toList.any λ e=>Region.binds .any e&&(e.on==i||WZ l f i e.on)
   | none=>false
def RW(l:List Oper)(n:Nat)(x y:Nat×Nat):Bool:=
 match l[x.1]?,l[y.1]? with
 | some ox,some oy=>!waits ox y.1&&
   (if y.2=4 then WZ l n x.1 y.1||(decide (x.2=0)&&We ox.op&&Oh ox.op&&Oper.apart l.toArray ox oy) else if x.2<=1 then (waits oy x.1||(Oper.apart l.toArray ox oy&&(x.2 != 1||(ox.dst.getD 0 != oy.dst.getD 0&&decide (ox.dst.getD 0<10000)))))&&(!(y.2==3&&x.2==0)||WZ l n x.1 y.1)
    else WZ l n x.1 y.1&&!((x.2==3||x.2==4)&&(y.2==0||y.2==2)))
 | _,_=>false
def opB(l:List Oper)(x:Nat×Nat):Bool:=
 match l[x.1]? with
 | some o=>(match x.2 with
     | 0=>Oh o.op
     | 1=>true
     | 2 | 3=>isQ o.op
     | 4=>true
     | _=>false)&&!waits o x.1&&o.after.toList.all λ e=>!Region.binds .any e||decide (e.on<l.length)
 | none=>false
def HT(l:List Oper)(n:Nat):List (Nat×Nat)->Bool
 | []=>true
 | x::r=>r.all (RW l n x)&&HT l n r
def Aq8:List Nat->Bool
 | []=>true
 | x::r=>r.all (λ y=>x != y)&&Aq8 r
theorem V0:∀{l:List Nat},Aq8 l=true->l.Nodup
 | [],_=>List.nodup_nil
 | x::r,h=>by
   simp only[Aq8,As] at h;refine BD.2 ⟨λ hm=>?_,V0 h.2⟩;have:=AB.1 h.1 x hm;simp at this
def Aca(l:List Oper)(p:List (Nat×Nat)):Bool:=
 Aq8 (p.map (·.1))&&HT l l.length p&&p.all (opB l)&&p.length==l.length&&(List.range l.length).all λ i=>p.any λ x=>x.1==i
section
variable {P:Program} {l:List Oper} {hR:Hp}
theorem OM{n:Nat}{y:Nat×Nat}{post:List (Nat×Nat)}:∀{pre:List (Nat×Nat)},HT l n (pre++y::post)=true->∀x∈pre,RW l n x y=true
 | [],_,x,hx=>by cases hx
 | z::pre,h,x,hx=>by
   simp only[A5,HT,As] at h;rcases AG.1 hx with rfl | hx
   . exact AB.1 h.1 y (by simp)
   . exact OM h.2 x hx
theorem MA{n:Nat}{y:Nat×Nat}{post:List (Nat×Nat)}:∀{pre:List (Nat×Nat)},HT l n (pre++y::post)=true->∀x∈post,RW l n y x=true
 | [],h,x,hx=>by
   simp only[Bs,HT,As] at h;exact AB.1 h.1 x hx
 | z::pre,h,x,hx=>by
   simp only[A5,HT,As] at h;exact MA h.2 x hx
theorem RV{n:Nat}{y:Nat×Nat}{post:List (Nat×Nat)}:∀{pre:List (Nat×Nat)},HT l n (pre++y::post)=true->HT l n (pre++post)=true
 | [],h=>by
   simp only[Bs,HT,As] at h;exact h.2
 | z::pre,h=>by
   simp only[A5,HT,As] at h ⊢;refine ⟨AB.2 λ x hx=>?_,RV h.2⟩;refine AB.1 h.1 x ?_;rcases Av.1 hx with h1 | h1
   . exact BM _ h1
   . exact List.mem_append_right _ (Bk _ h1)
def Down(l:List Oper)(listed:Array Bool):Prop:=∀k ok,l[k]?=some ok->listed.getD k false=true->∀e∈ok.after,Region.binds .any e=true->listed.getD e.on false=true
theorem Mo{listed:Array Bool}(hd:Down l listed):∀(f i j:Nat) (oj:Oper),l[j]?=some oj->(∀e∈oj.after,Region.binds .any e=true->listed.getD e.on false=true)->WZ l f i j=true->listed.getD i false=true
 | 0,i,j,oj,_,_,h=>by simp[WZ] at h
 | f+1,i,j,oj,hj,Dw,h=>by
   simp only[WZ,hj,AU,As,BS,beq_iff_eq] at h;obtain ⟨e,he,hb,h1⟩:=h;have hl:=Dw e (by simpa using he) hb;rcases h1 with rfl | h1
   . exact hl
   . cases hk:l[e.on]? with
     | none=>cases f<;>simp[WZ,hk] at h1
     | some ok=>exact Mo hd f i e.on ok hk (hd e.on ok hk hl) h1
theorem SZ{o:Oper}{i:Nat}:waits o i=true↔∃e∈o.after,Region.binds .any e=true/\e.on=i:=by
 simp only[waits,AU,As,beq_iff_eq];constructor
 . rintro ⟨e,he,h1,h2⟩;exact ⟨e,by simpa using he,h1,h2⟩
 . rintro ⟨e,he,h1,h2⟩;exact ⟨e,by simpa using he,h1,h2⟩
theorem Wn{listed:Array Bool}{i:Nat}(h:listed.getD i true=false):listed.getD i false=false:=by
 rw[At] at*;cases hg:listed[i]? with
 | none=>rfl
 | some b=>rw[hg] at h;exact h
structure Inv(l:List Oper)(rest:List (Nat×Nat))(listed:Array Bool):Prop where
 iff:∀k,k<l.length->(listed.getD k true=false↔∃x∈rest,x.1=k)
 sz:listed.size=l.length
 down:Down l listed
 VW:HT l l.length rest=true
 ops:rest.all (opB l)=true
 len:∀x∈rest,x.1<l.length
theorem Avt{K:St->Prop}(hK:SL K){c:Ctx}{Q:Exit->Act->World->Prop}(hQ:∀a w,Good c K a w->Q .normal a w):∀(fuel:Nat) {rest:List (Nat×Nat)} {listed:Array Bool} {st:St} {a:Act} {w:World} {F:Nat->Prop} {M:Nat->Mb},
   rest.length=fuel->(rest.map (·.1)).Nodup->Rel c st a w F M->Gp P l hR rest K st->((∃x∈rest,Q2 l x)->C3 st.hp hR)->Inv l rest listed->wpAny P .any l.toArray Q fuel listed a w:=by
 intro fuel
 induction fuel with
 | zero=>
   intro rest listed st a w F M hlen hnd hr hg hle hi;obtain rfl:rest=[]:=AY hlen;refine ⟨?_,hQ _ _ ⟨st,F,M,hg,hr⟩⟩;refine List.eq_nil_iff_forall_not_mem.2 λ j hj=>?_;obtain ⟨h0,oj,hoj,_⟩:=mem_ready.1 hj;have Cr:j<l.length:=by have:=(Array.getElem?_eq_some_iff.1 hoj).1;simpa using this
   obtain ⟨x,hx,_⟩:=(hi.iff j Cr).1 h0;cases hx
 | succ fuel ih=>
   intro rest listed st a w F M hlen hnd hr hg hle hi;refine ⟨λ Bba=>?_,λ j hj=>?_⟩
   . exfalso;cases rest with
     | nil=>cases hlen
     | cons x r=>
       have Ml:x.1∈Region.ready .any l.toArray listed:=by
         have Cr:=hi.len x (by simp);refine mem_ready.2 ⟨(hi.iff x.1 Cr).2 ⟨x,by simp,rfl⟩,l[x.1],by simp[Cr],λ e he hb=>?_⟩;have Lh:opB l x=true:=AB.1 hi.ops x (by simp);have hox:l[x.1]?=some l[x.1]:=Az Cr;simp only[opB,hox,As,AB,BS,BA,Au] at Lh;have Axv:=(Lh.2 e (by simpa using he)).resolve_left (by rw[hb];simp);cases hle:listed.getD e.on true with
         | true=>
           rw[At] at hle ⊢;have:e.on<listed.size:=by rw[hi.sz];exact Axv
           rw[Array.getElem?_eq_getElem this] at hle ⊢;exact hle
         | false=>
           exfalso;obtain ⟨y,hy,hye⟩:=(hi.iff e.on Axv).1 hle;have hw:waits l[x.1] y.1=true:=SZ.2 ⟨e,he,hb,hye.symm⟩;rcases AG.1 hy with rfl | hy
           . rw[hw] at Lh;simp at Lh
           . have hp:=hi.VW;simp only[HT,As] at hp;have:=AB.1 hp.1 y hy;unfold RW at this;rw[hox] at this;split at this
             . rename_i ox oy h1 h2;cases h1;rw[hw] at this;simp at this
             . cases this
       rw[Bba] at Ml;cases Ml
   . obtain ⟨h0,oj,hoj,Dw⟩:=mem_ready.1 hj;have Cr:j<l.length:=by have:=(Array.getElem?_eq_some_iff.1 hoj).1;simpa using this
     have N4:l[j]?=some oj:=by simpa using hoj
     obtain ⟨x,hx,rfl⟩:=(hi.iff j Cr).1 h0;obtain ⟨j,kj⟩:=x;obtain ⟨pre,post,rfl⟩:=List.append_of_mem hx;simp only at hoj N4 h0 Dw Cr hj ⊢;have Me:∀x∈pre,x.2<=1/\∃oi,l[x.1]?=some oi/\(x.2=0->Oh oi.op=true)/\Ap l oi oj/\(x.2=1->oi.dst.getD 0≠oj.dst.getD 0/\oi.dst.getD 0<10000)/\¬(kj=3/\x.2=0):=by
       intro x hx;have hp:=OM hi.VW x hx;have Af7:x∈pre++(j,kj)::post:=by simp[hx]
       have hxl:=hi.len x Af7;have hun:listed.getD x.1 false=false:=Wn ((hi.iff x.1 hxl).2 ⟨x,Af7,rfl⟩);have hox:l[x.1]?=some l[x.1]:=Az hxl;have Lh:opB l x=true:=AB.1 hi.ops x Af7;have hnt:WZ l l.length x.1 j≠true:=λ ht=>by
         have:=Mo hi.down _ _ _ oj N4 Dw ht;rw[hun] at this;cases this
       have hnw:waits oj x.1≠true:=λ hw=>by
         obtain ⟨e,he,hb,hye⟩:=SZ.1 hw;have:=Dw e he hb;rw[hye,hun] at this;cases this
       unfold RW at hp;rw[hox,N4] at hp;simp only[As] at hp;obtain ⟨_,hp⟩:=hp;split at hp
       . rename_i h4;simp only[BS,As,Au] at hp;rcases hp with hp | ⟨⟨⟨h1,h2⟩,h3⟩,h5⟩
         . exact (hnt hp).elim
         . obtain ⟨s1,s2,s3⟩:=Oper.apart_spec h5;exact ⟨by omega,l[x.1],hox,λ _=>h3,⟨s1,s2,s3⟩,λ h=>by omega,λ ⟨h,_⟩=>by omega⟩
       split at hp
       . rename_i Auq;simp only[As,BS] at hp;obtain ⟨hp1,JU⟩:=hp;have hp1:=hp1.resolve_left hnw;obtain ⟨s1,s2,s3⟩:=Oper.apart_spec hp1.1;refine ⟨Auq,l[x.1],hox,λ hz=>?_,⟨s1,s2,s3⟩,λ h1=>?_,λ ⟨h3,hz⟩=>?_⟩
         . simp only[opB,hox,hz,As] at Lh;exact Lh.1.1
         . have:=hp1.2.resolve_left (by simp[h1])
           simpa using this
         . exact hnt (JU.resolve_left (by simp[h3,hz]))
       . simp only[As] at hp;exact (hnt hp.1).elim
     have PX:opB l (j,kj)=true:=AB.1 hi.ops _ (by simp);have Axi:((pre++post).map (·.1)).Nodup/\∀x∈pre++post,x.1≠j:=by
       rw[Bj,AH] at hnd;obtain ⟨h1,h2,h3⟩:=BQ.1 hnd;obtain ⟨h4,h5⟩:=BD.1 h2;refine ⟨?_,λ x hx e=>?_⟩
       . rw[Bj];exact BQ.2 ⟨h1,h5,λ a ha b hb=>h3 a ha b (Bk _ hb)⟩
       . rcases Av.1 hx with h6 | h6
         . exact h3 x.1 (List.mem_map_of_mem h6) j (by simp) e
         . exact h4 (by simp only;rw[<-e];exact List.mem_map_of_mem h6)
     have T2:Inv l (pre++post) (listed.setIfInBounds j true):=by
       refine ⟨λ k hk=>?_,by simp[hi.sz],?_,RV hi.VW,?_,λ x hx=>hi.len x (by rcases Av.1 hx with h | h<;>simp[h])⟩
       . by_cases e:j=k
         . subst e;have:(listed.setIfInBounds j true).getD j true=true:=by
             rw[At,Array.getElem?_setIfInBounds];simp[hi.sz,Cr]
           rw[this];refine ⟨λ h=>(by cases h),λ ⟨x,hx,hxe⟩=>(Axi.2 x hx hxe).elim⟩
         . rw[getD_set_ne true e,hi.iff k hk];constructor
           . rintro ⟨x,hx,hxe⟩;rcases Av.1 hx with h | h
             . exact ⟨x,BM _ h,hxe⟩
             . rcases AG.1 h with rfl | h
               . exact (e hxe).elim
               . exact ⟨x,List.mem_append_right _ h,hxe⟩
           . rintro ⟨x,hx,hxe⟩;exact ⟨x,by rcases Av.1 hx with h | h<;>simp[h],hxe⟩
       . intro k ok hk hkl e he hb;by_cases ee:j=k
         . subst ee;rw[N4] at hk;cases hk;exact getD_set_true (Dw e he hb)
         . rw[getD_set_ne false ee] at hkl;exact getD_set_true (hi.down k ok hk hkl e he hb)
       . refine AB.2 λ x hx=>AB.1 hi.ops x ?_;rcases Av.1 hx with h | h<;>simp[h]
     have Axn:(pre++post).length=fuel:=by simp at hlen ⊢;omega
     have next:∀{s a' w' F' M'},Rel c s a' w' F' M'->Gp P l hR (pre++post) K s->((∃x∈pre++post,Q2 l x)->C3 s.hp hR)->wpAny P .any l.toArray Q fuel (listed.setIfInBounds j true) a' w':=
       λ J2 hg' Axo=>ih Axn Axi.1 J2 hg' Axo T2
     have ID:(∃x∈pre++post,Q2 l x)->C3 st.hp hR:=λ ⟨x,hx,h2⟩=>hle ⟨x,by rcases Av.1 hx with h | h<;>simp[h],h2⟩;have main:FT st l oj.guard (Yt P oj (λ s=>((∃x∈pre++post,Q2 l x)->C3 s.hp hR)/\Gp P l hR (pre++post) K s) st) (Gp P l hR (pre++post) K (st.put oj.dst (.Dr []))):=by
       have two:∀x∈pre,x.2=0∨x.2=1:=λ x hx=>by have:=(Me x hx).1;omega
       match kj,hg,hle,Me,PX,hi with
       | 0,hg,hle,Me,PX,hi=>
         have h1:=Asi hK N4 post pre hg (λ x hx=>⟨two x hx,by obtain ⟨_,oi,h1,h2,h3,_⟩:=Me x hx;exact ⟨oi,h1,h2,h3⟩⟩);have hv:Oh oj.op=true:=by simp only[opB,N4,As] at PX;exact PX.1.1
         refine DC rfl (λ hy=>?_) id h1;have h2:(Kn P st oj).all (λ x=>x.2=st.hp/\Gp P l hR (pre++post) K (st.put oj.dst x.1)):=by
           by_cases hls:We oj.op=true
           . exact Ahi (k:=λ d=>Gp P l hR (pre++post) K (st.put oj.dst d)) hls hy
           . have hl:=hle ⟨(j,0),by simp,.inl ⟨rfl,λ o ho=>by rw[N4] at ho;cases ho;simpa using hls⟩⟩;exact doV (k:=λ d=>Gp P l hR (pre++post) K (st.put oj.dst d)) hl.hx hv hy
         exact .inl <| QI (Zi hv) (Rs.Cg (λ x hx=>by
           obtain ⟨e1,e2⟩:=hx;rw[e1];exact ⟨λ hh=>by rw[Ds];exact ID hh,e2⟩) h2)
       | 1,hg,hle,Me,PX,hi=>
         have h1:=Asj hK N4 post pre hg (λ x hx=>⟨two x hx,by obtain ⟨_,oi,h1,h2,h3,h4,_⟩:=Me x hx;exact ⟨oi,h1,h2,h3,λ e=>(h4 e).1⟩⟩);refine DC rfl (λ hy=>?_) id h1;obtain ⟨x,hx,hb⟩:=Rs.leaf hy;obtain ⟨h2,h3,h4⟩:=WS (K:=λ s=>((∃x∈pre++post,Q2 l x)->C3 s.hp hR)/\Gp P l hR (pre++post) K s) (Rs.Cg (λ y hy=>⟨hy.1,λ hh=>by
           rw[Ds];exact C3.app (.inr ⟨_,rfl⟩) (λ z hz=>by simp only[Aw] at hz;subst hz;exact hy.1) (ID hh),hy.2⟩) hy)
         exact .inl <| QI h2 (by rw[h3];exact h4)
       | 2,hg,hle,Me,PX,hi=>
         have hq:isQ oj.op=true:=by simp only[opB,N4,As] at PX;exact PX.1.1
         have h1:=Ajz hK N4 (.inl rfl) hq post pre hr hg (λ _=>hle ⟨(j,2),by simp,.inr rfl⟩) (λ x hx=>⟨two x hx,by obtain ⟨_,oi,h1,h2,h3,h4,_⟩:=Me x hx;exact ⟨oi,h1,h2,h3,h4⟩⟩);exact DC rfl (λ hy=>Hh (λ s hs=>⟨λ _=>hs.1 rfl,hs.2⟩) hy) id h1
       | 3,hg,hle,Me,PX,hi=>
         have hq:isQ oj.op=true:=by simp only[opB,N4,As] at PX;exact PX.1.1
         have N5:∀x∈pre++post,¬(x.2=0∨x.2=2):=by
           intro x hx h2;rcases Av.1 hx with h | h
           . obtain ⟨h3,oi,_,_,_,_,h4⟩:=Me x h;rcases h2 with h2 | h2
             . exact h4 ⟨rfl,h2⟩
             . omega
           . have hp:=MA hi.VW x h;unfold RW at hp;split at hp
             . rw[if_neg (by omega),if_neg (by simp)] at hp;rcases h2 with h2 | h2<;>simp[h2] at hp
             . cases hp
         have h1:=Ajz hK N4 (.inr rfl) hq post pre hr hg (λ hh=>by
           rcases hh with h | ⟨x,hx,h2⟩
           . cases h
           . exact (N5 x (BM _ hx) (.inl h2)).elim) (λ x hx=>⟨two x hx,by obtain ⟨_,oi,h1,h2,h3,h4,_⟩:=Me x hx;exact ⟨oi,h1,h2,h3,h4⟩⟩)
         exact DC rfl (λ hy=>Hh (λ s hs=>⟨λ ⟨x,hx,h2⟩=>(N5 x hx (h2.imp And.left id)).elim,hs.2⟩) hy) id h1
       | 4,hg,hle,Me,PX,hi=>
         have P3:∀x∈pre,x.2=0/\∃oi,l[x.1]?=some oi/\Oh oi.op=true/\Ap l oi oj/\We oi.op=true:=by
           intro x hx;have hp:=OM hi.VW x hx;have Af7:x∈pre++(j,4)::post:=by simp[hx]
           have hxl:=hi.len x Af7;have hun:listed.getD x.1 false=false:=Wn ((hi.iff x.1 hxl).2 ⟨x,Af7,rfl⟩);have hox:l[x.1]?=some l[x.1]:=Az hxl;unfold RW at hp;rw[hox,N4] at hp;simp only[AP,As,BS,Au] at hp;rcases hp.2 with h | ⟨⟨⟨h1,h2⟩,h3⟩,h5⟩
           . have:=Mo hi.down _ _ _ oj N4 Dw h;rw[hun] at this;cases this
           . obtain ⟨s1,s2,s3⟩:=Oper.apart_spec h5;exact ⟨h1,l[x.1],hox,h3,⟨s1,s2,s3⟩,h2⟩
         have N5:∀x∈pre++post,¬Q2 l x:=by
           intro x hx h2;rcases Av.1 hx with h | h
           . obtain ⟨g1,oi,g2,_,_,g3⟩:=P3 x h;rcases h2 with ⟨_,h2⟩ | h2
             . have:=h2 oi g2;rw[g3] at this;cases this
             . omega
           . have hp:=MA hi.VW x h;unfold RW at hp;split at hp
             . rename_i ox oy e1 e2;by_cases h4:x.2=4
               . rcases h2 with ⟨h2,_⟩ | h2<;>omega
               . rw[if_neg h4,if_neg (by simp)] at hp;rcases h2 with ⟨h2,_⟩ | h2<;>simp[h2] at hp
             . cases hp
         have h1:=Ash hK N4 post pre hg (λ x hx=>by obtain ⟨g1,oi,g2,g3,g4,_⟩:=P3 x hx;exact ⟨g1,oi,g2,g3,g4⟩);exact DC rfl (λ hy=>Hh (λ s hs=>⟨λ ⟨x,hx,h2⟩=>(N5 x hx h2).elim,hs⟩) hy) id h1
       | kj+5,hg,hle,Me,PX,hi=>simp[opB,N4] at PX
     unfold wpOp;rw[hoj];simp only;have QD:=R9 (ops:=l.toArray) hr main;rcases QD with ⟨hw,hy⟩ | ⟨hw,hn⟩
     . rw[if_pos hw];refine .inl (Oper.wp_mono (λ a' w' hgd=>?_) (Adb hr hy Q));obtain ⟨s,F',M',⟨h1,h2⟩,J2⟩:=hgd;exact next J2 h2 h1
     . rw[if_neg (by rw[hw];simp)];exact next (hr.put (.Dr [] #[] rfl (λ i d hd=>by simp at hd)) oj.dst) hn (λ hh=>by rw[Ds];exact ID hh)
end
end Go.Am
namespace Go.Am
open Go
section
variable {P:Program} {l:List Oper} {hR:Hp}
theorem NV{K K':St->Prop}(hK:∀s,K s->K' s):∀(r:List (Nat×Nat)) {st:St},Gp P l hR r K st->Gp P l hR r K' st
 | [],st,h=>hK _ h
 | (i,kd)::r,st,h=>by
   simp only[Gp] at h ⊢;split at h
   . exact h.elim
   . rename_i o ho;(try simp only[ho]);refine DC rfl (λ hy=>?_) (λ hn=>NV hK r hn) h;split at hy
     . exact Rs.Cg (λ x hx=>NV hK r hx) hy
     . exact Rs.Cg (λ x hx=>⟨hx.1,NV hK r hx.2⟩) hy
     . exact Hh (λ s hs=>⟨hs.1,NV hK r hs.2⟩) hy
     . exact Hh (λ s hs=>NV hK r hs) hy
def wDg(P:Program)(o:Oper)(K:St->Prop)(st:St):Prop:=
 match De o.op with
 | some (f,args)=>(G9 st f args).JO (UQ P o K st) λ x=>LQ (UQ P o K st) P x.2.2 x.1 x.2.1 (o.dst.getD 0) λ d h'=>K (({st with hp:=h'}:St).put o.dst d)
 | none=>(Kn P st o).all λ x=>K (({st with hp:=x.2}:St).put o.dst x.1)
theorem Rs.Nk{α:Type}{S T:Prop}{k k':α->Prop}(hk:∀x,k x->k' x∨T)(hS:S->T):∀{r:Rs α},r.JO S k->r.all k'∨T
 | .fail,h=> .inr (hS h)
 | .ret p x,h=>(hk x h.2).elim (λ h2=> .inl ⟨h.1,h2⟩) .inr
 | .split b x y,h=>by
   cases b
   . exact (Rs.Nk hk hS (h.2 rfl)).elim (λ h2=> .inl ⟨λ e=>(AJ e).elim,λ _=>h2⟩) .inr
   . exact (Rs.Nk hk hS (h.1 rfl)).elim (λ h2=> .inl ⟨λ _=>h2,λ e=>(AJ e.symm).elim⟩) .inr
theorem Asa{o:Oper}{K:St->Prop}{st:St}(h:wDg P o K st):Yt P o K st:=by
 unfold wDg at h;unfold Yt QK;split at h
 . rename_i f args hc;(try simp only[hc]);refine (Rs.Nk (k':=λ x:FuncId×List D×Hp=>HJ P x.2.2 x.1 x.2.1 (o.dst.getD 0) λ d h'=>K (({st with hp:=h'}:St).put o.dst d)) (λ x hx=>RA hx) id h).imp (λ h2=>?_) id;exact Rs.Fb (Rs.Cg (λ x hx=>WO hx) h2)
 . rename_i hc;(try simp only[hc]);exact .inl (Rs.Fb h)
def Gw(P:Program)(l:List Oper)(hR:Hp):List (Nat×Nat)->(St->Prop)->St->Prop
 | [],K,st=>K st
 | (i,kd)::r,K,st=>match l[i]? with
   | none=>False
   | some o=>FT st l o.guard (match kd with
     | 0=>(Kn P {st with hp:=hR} o).all λ x=>Gw P l hR r K (st.put o.dst x.1)
     | 1=>(IL P st (o.dst.getD 0) o.op).all λ x=>get st.hp (o.dst.getD 0)=none/\Gw P l hR r K (({st with hp:=(o.dst.getD 0,x.2)::st.hp}:St).put o.dst x.1)
     | 2=>wDg P o (λ s=>C3 s.hp hR/\Gw P l hR r K s) st
     | _=>wDg P o (Gw P l hR r K) st) (Gw P l hR r K (st.put o.dst (.Dr [])))
theorem WU{K:St->Prop}:∀(r:List (Nat×Nat)) {st:St},Gw P l hR r K st->Gp P l hR r K st
 | [],st,h=>h
 | (i,kd)::r,st,h=>by
   simp only[Gw] at h;simp only[Gp];split at h
   . exact h.elim
   . rename_i o ho;(try simp only[ho]);refine DC rfl (λ hy=>?_) (λ hn=>WU r hn) h
     match kd,hy with
     | 0,hy=>exact Rs.Cg (λ x hx=>WU r hx) hy
     | 1,hy=>exact Rs.Cg (λ x hx=>⟨hx.1,WU r hx.2⟩) hy
     | 2,hy=>exact Hh (λ s hs=>⟨hs.1,WU r hs.2⟩) (Asa hy)
     | kd+3,hy=>exact Hh (λ s hs=>WU r hs) (Asa hy)
def G(P:Program)(l:List Oper)(hR:Hp)(r:List (Nat×Nat))(k:Kt)(st:St):Prop:=Gw P l hR r (k.Fi P .normal) st
theorem Ae7{p:List (Nat×Nat)}(h:Aca l p=true):(p.map (·.1)).Nodup/\p.length=l.length/\Inv l p (Array.replicate l.length false):=by
 simp only[Aca,As,beq_iff_eq] at h;obtain ⟨⟨⟨⟨h0,h1⟩,h2⟩,h3⟩,h4⟩:=h;have hlen:∀x∈p,x.1<l.length:=by
   intro x hx;have:=AB.1 h2 x hx;unfold opB at this;split at this
   . rename_i o ho;exact (Ao.1 ho).1
   . cases this
 have ID:List.range l.length ⊆ p.map (·.1):=by
   intro i hi;have:=AB.1 h4 i hi;obtain ⟨x,hx,hxi⟩:=AU.1 this;exact List.mem_map.2 ⟨x,hx,by simpa using hxi⟩
 have hnd:=V0 h0;refine ⟨hnd,h3,⟨λ k hk=>?_,by simp,λ k ok hk hl=>?_,h1,h2,hlen⟩⟩
 . rw[At,Array.getElem?_replicate,if_pos hk];refine ⟨λ _=>?_,λ _=>rfl⟩;obtain ⟨x,hx,hxi⟩:=AT.1 (ID (List.mem_range.2 hk));exact ⟨x,hx,hxi⟩
 . exfalso;rw[At,Array.getElem?_replicate] at hl;split at hl<;>simp at hl
theorem Di{id:Nat}{p:List (Nat×Nat)}{k:Kt}{st:St}(hR:Hp)(hm:P.follows .mixedOrders=true)(hB:Aca l p=true)(hle:C3 st.hp hR)(h:G P l hR p k st):X P (.region id l.toArray true) k st:=by
 refine .inr ⟨rfl,λ c a w F M hr=>?_⟩;obtain ⟨hnd,hl,hi⟩:=Ae7 hB;refine wp_region_any hm ?_;have HB:Rel c st a {w with drawn:=w.drawn+1} F M:=hr.drew;have:=Avt (P:=P) (l:=l) (hR:=hR) (SL.of (k.Fi P .normal)) (c:=c) (Q:=QC c (k.Fi P)) (λ a w ⟨s,F,M,⟨s',he,hk⟩,hr⟩=>⟨s',F,M,hk,hr.eqv he⟩) l.length hl hnd HB
   (NV (λ s hs=>⟨s,Lj.refl s,hs⟩) p (WU p h)) (λ _=>hle) hi
 simpa using this
end
def Hd(kd:Nat)(h hR:Hp):Prop:=match kd with
 | 2=>C3 h hR
 | _=>True
theorem Avq(h hR:Hp):Hd 2 h hR=C3 h hR:=nd rfl
theorem Ap4(h hR:Hp):Hd 3 h hR=True:=nd rfl
def Gf(P:Program)(l:List Oper)(hR:Hp)(r:List (Nat×Nat))(k:Kt)(o:Oper)(st:St)(x:Rs (D×Hp)):Prop:=x.all λ x=>G P l hR r k (st.put o.dst x.1)
def Ga(P:Program)(l:List Oper)(hR:Hp)(r:List (Nat×Nat))(k:Kt)(o:Oper)(st:St)(x:Rs (D×AO)):Prop:=
 x.all λ x=>get st.hp (o.dst.getD 0)=none/\G P l hR r k (({st with hp:=(o.dst.getD 0,x.2)::st.hp}:St).put o.dst x.1)
def Gs(P:Program)(l:List Oper)(hR:Hp)(r:List (Nat×Nat))(k:Kt)(kd:Nat)(o:Oper)(st:St)(x:Rs (D×Hp)):Prop:=
 x.all λ x=>Hd kd x.2 hR/\G P l hR r k (({st with hp:=x.2}:St).put o.dst x.1)
def Bq(P:Program)(l:List Oper)(hR:Hp)(r:List (Nat×Nat))(k:Kt)(kd:Nat)(o:Oper)(st:St):Prop:=UQ P o (λ s=>Hd kd s.hp hR/\G P l hR r k s) st
def Gc(P:Program)(l:List Oper)(hR:Hp)(r:List (Nat×Nat))(k:Kt)(kd:Nat)(o:Oper)(st:St)(x:Rs (FuncId×List D×Hp)):Prop:=
 x.JO (Bq P l hR r k kd o st) λ x=>LQ (Bq P l hR r k kd o st) P x.2.2 x.1 x.2.1 (o.dst.getD 0) λ d h'=>Hd kd h' hR/\G P l hR r k (({st with hp:=h'}:St).put o.dst d)
def Gk(P:Program)(l:List Oper)(hR:Hp)(r:List (Nat×Nat))(k:Kt)(kd:Nat)(dst:Option Nat)(st:St)(f:FuncId)(ds:List D)(h:Hp)(T:List Nat)(S:Prop):Prop:=
 (B1 P f (Hz (idx T base) ds) (sub h (idx T base) base T) λ h' x=>fresh (dst.getD 0) h h'/\Hd kd (merge T (dst.getD 0) h h') hR/\G P l hR r k (({st with hp:=merge T (dst.getD 0) h h'}:St).put dst (x.D8 (back T (dst.getD 0)))))∨S
def Ge(P:Program)(l:List Oper)(hR:Hp)(r:List (Nat×Nat))(k:Kt)(o:Oper)(st:St):Nat->Prop
 | 0=>Gf P l hR r k o st (Kn P {st with hp:=hR} o)
 | 1=>Ga P l hR r k o st (IL P st (o.dst.getD 0) o.op)
 | 2=>match De o.op with
   | some (f,args)=>Gc P l hR r k 2 o st (G9 st f args)
   | none=>Gs P l hR r k 2 o st (Kn P st o)
 | _=>match De o.op with
   | some (f,args)=>Gc P l hR r k 3 o st (G9 st f args)
   | none=>Gs P l hR r k 3 o st (Kn P st o)
def Gd(P:Program)(l:List Oper)(hR:Hp)(r:List (Nat×Nat))(k:Kt)(kd:Nat)(o:Oper)(st:St):Gv->Prop
 | .yes=>Ge P l hR r k o st kd
 | .no=>G P l hR r k (st.put o.dst (.Dr []))
 | .cond b=>WT b (Ge P l hR r k o st kd) (G P l hR r k (st.put o.dst (.Dr [])))
 | .bad=>False
def Gg(P:Program)(l:List Oper)(hR:Hp)(r:List (Nat×Nat))(k:Kt)(kd:Nat)(st:St):Option Oper->Prop
 | none=>False
 | some o=>Gd P l hR r k kd o st (Kl st l o.guard)
section
variable {P:Program} {l:List Oper} {hR:Hp} {r:List (Nat×Nat)} {k:Kt} {o:Oper} {st:St} {kd:Nat} {b:Bool} {dst:Option Nat}
theorem Yv{f:Operand}{args:List Operand}{K:St->Prop}(hc:De o.op=some (f,args)):wDg P o K st=(G9 st f args).JO (UQ P o K st) λ x=>LQ (UQ P o K st) P x.2.2 x.1 x.2.1 (o.dst.getD 0) λ d h'=>K (({st with hp:=h'}:St).put o.dst d):=by
 unfold wDg;rw[hc]
theorem Yu{K:St->Prop}(hc:De o.op=none):wDg P o K st=(Kn P st o).all λ x=>K (({st with hp:=x.2}:St).put o.dst x.1):=by
 unfold wDg;rw[hc]
theorem Ayx:G P l hR [] k st=J P k .normal st:=nd rfl
theorem Aw0(i:Nat):G P l hR ((i,kd)::r) k st=Gg P l hR r k kd st l[i]?:=by
 unfold G;simp only[Gw];cases l[i]? with
 | none=>rfl
 | some o=>
   simp only[Gg];rw[G7];have e:(match kd with
     | 0=>(Kn P {st with hp:=hR} o).all λ x=>Gw P l hR r (k.Fi P .normal) (st.put o.dst x.1)
     | 1=>(IL P st (o.dst.getD 0) o.op).all λ x=>get st.hp (o.dst.getD 0)=none/\Gw P l hR r (k.Fi P .normal) (({st with hp:=(o.dst.getD 0,x.2)::st.hp}:St).put o.dst x.1)
     | 2=>wDg P o (λ s=>C3 s.hp hR/\Gw P l hR r (k.Fi P .normal) s) st
     | _=>wDg P o (Gw P l hR r (k.Fi P .normal)) st)=Ge P l hR r k o st kd:=by
     match kd with
     | 0=>rfl
     | 1=>rfl
     | 2=>
       simp only[Ge];cases hc:De o.op with
       | none=>simp only[Yu hc,Ds];rfl
       | some x=>obtain ⟨f,args⟩:=x;simp only[Yv hc,Gc,Bq,Hd,Ds];rfl
     | kd+3=>
       simp only[Ge];cases hc:De o.op with
       | none=>simp only[Yu hc,Gs,Hd,true_and];rfl
       | some x=>obtain ⟨f,args⟩:=x;simp only[Yv hc,Gc,Bq,Hd,true_and];rfl
   cases Kl st l o.guard with
   | yes=>exact e
   | no=>rfl
   | bad=>rfl
   | cond b=>exact congrArg (λ x=>WT b x (Gw P l hR r (k.Fi P .normal) (st.put o.dst (.Dr [])))) e
theorem As0:Gg P l hR r k kd st (some o)=Gd P l hR r k kd o st (Kl st l o.guard):=nd rfl
theorem Avx:Gd P l hR r k kd o st .yes=Ge P l hR r k o st kd:=nd rfl
theorem Ayw:Gd P l hR r k kd o st .no=G P l hR r k (st.put o.dst (.Dr [])):=nd rfl
theorem As4:Gd P l hR r k kd o st (.cond true)=Ge P l hR r k o st kd:=by simp[Gd]
theorem Ap9:Gd P l hR r k kd o st (.cond false)=G P l hR r k (st.put o.dst (.Dr [])):=by simp[Gd]
theorem As2:Ge P l hR r k o st 0=Gf P l hR r k o st (Kn P {st with hp:=hR} o):=nd rfl
theorem Avw:Ge P l hR r k o st 1=Ga P l hR r k o st (IL P st (o.dst.getD 0) o.op):=nd rfl
theorem Avv:Ge P l hR r k o st 2=match De o.op with
   | some (f,args)=>Gc P l hR r k 2 o st (G9 st f args)
   | none=>Gs P l hR r k 2 o st (Kn P st o):=nd rfl
theorem Ap8:Ge P l hR r k o st 3=match De o.op with
   | some (f,args)=>Gc P l hR r k 3 o st (G9 st f args)
   | none=>Gs P l hR r k 3 o st (Kn P st o):=nd rfl
theorem As3:Ge P l hR r k o st 4=match De o.op with
   | some (f,args)=>Gc P l hR r k 3 o st (G9 st f args)
   | none=>Gs P l hR r k 3 o st (Kn P st o):=nd rfl
theorem Avu(p:Prop)(d:D)(h:Hp):Gf P l hR r k o st (.ret p (d,h))=(p/\G P l hR r k (st.put o.dst d)):=nd rfl
theorem As1(x y:Rs (D×Hp)):Gf P l hR r k o st (.split true x y)=Gf P l hR r k o st x:=by simp[Gf,Rs.all]
theorem Ap7(x y:Rs (D×Hp)):Gf P l hR r k o st (.split false x y)=Gf P l hR r k o st y:=by simp[Gf,Rs.all]
theorem Avz(p:Prop)(d:D)(ao:AO):Ga P l hR r k o st (.ret p (d,ao))=(p/\get st.hp (o.dst.getD 0)=none/\G P l hR r k (({st with hp:=(o.dst.getD 0,ao)::st.hp}:St).put o.dst d)):=nd rfl
theorem Avs(p:Prop)(d:D)(h:Hp):Gs P l hR r k kd o st (.ret p (d,h))=(p/\Hd kd h hR/\G P l hR r k (({st with hp:=h}:St).put o.dst d)):=nd rfl
theorem Avy(p:Prop)(f:FuncId)(ds:List D)(h:Hp):Gc P l hR r k kd o st (.ret p (f,ds,h))=
   (p/\(DJ h (Du ds)).Nodup/\((DJ h (Du ds)).all λ id=>(get h id).isSome)=true/\Gk P l hR r k kd o.dst st f ds h (DJ h (Du ds)) (Bq P l hR r k kd o st)):=nd rfl
end
def Cc(P:Program)(s:Bool)(ops rest:List Oper)(k:Kt)(dst:Option Nat)(st:St)(h:Hp)(T:List Nat)(f:FuncId)(ds:List D)(hs:Hp)(S:Prop):Prop:=
 (B1 P f ds hs λ h' r=>fresh (dst.getD 0) h h'/\O P s ops rest k (({st with hp:=merge T (dst.getD 0) h h'}:St).put dst (r.D8 (back T (dst.getD 0)))))∨S
theorem Az0(P:Program)(s:Bool)(ops rest:List Oper)(k:Kt)(dst:Option Nat)(st:St)(f:FuncId)(ds:List D)(h:Hp)(T:List Nat)(S:Prop):
   Ck P s ops rest k dst st f ds h T S=Cc P s ops rest k dst st h T f (Hz (idx T base) ds) (sub h (idx T base) base T) S:=nd rfl
theorem Ec{P:Program}{s:Bool}{ops rest:List Oper}{k:Kt}{dst:Option Nat}{st:St}{h:Hp}{T:List Nat}{f:FuncId}{ds:List D}{hs:Hp}{S:Prop}{R:Hp->D->Prop}(hc:B1 P f ds hs R)
   (hk:∀h' r,R h' r->fresh (dst.getD 0) h h'/\O P s ops rest k (({st with hp:=merge T (dst.getD 0) h h'}:St).put dst (r.D8 (back T (dst.getD 0))))):Cc P s ops rest k dst st h T f ds hs S:= .inl (hc.mono hk)
def Kc(P:Program)(f:FuncId)(ds:List D)(hs h:Hp)(T:List Nat)(q:Nat)(k:D->Hp->Prop):Prop:=B1 P f ds hs λ h' r=>fresh q h h'/\k (r.D8 (back T q)) (merge T q h h')
theorem UO{P:Program}{f:FuncId}{ds:List D}{hs h:Hp}{T:List Nat}{q:Nat}{k:D->Hp->Prop}{R:Hp->D->Prop}(hc:B1 P f ds hs R)
   (hk:∀h' r,R h' r->fresh q h h'/\k (r.D8 (back T q)) (merge T q h h')):Kc P f ds hs h T q k:=hc.mono hk
theorem JL(P:Program)(h:Hp)(f:FuncId)(ds:List D)(q:Nat)(k:D->Hp->Prop):
   HJ P h f ds q k=((DJ h (Du ds)).Nodup/\((DJ h (Du ds)).all λ id=>(get h id).isSome)=true/\
     Kc P f (Hz (idx (DJ h (Du ds)) base) ds) (sub h (idx (DJ h (Du ds)) base) base (DJ h (Du ds))) h (DJ h (Du ds)) q k):=nd rfl
theorem Pc{P:Program}{ops rest:List Oper}{k:Kt}{dst:Option Nat}{st:St}{h:Hp}{T:List Nat}{f:FuncId}{ds:List D}{hs:Hp}{o:Oper}{fo:Operand}{args:List Operand}{g:FuncId}{cap:List D}
   (hc:De o.op=some (fo,args)) (hg:ev st fo= .fn g cap) (hk:HJ P st.hp g (args.map (ev st)++cap) (o.dst.getD 0) λ d h'=>O P true ops rest k (({st with hp:=h'}:St).put o.dst d)):
   Cc P true ops rest k dst st h T f ds hs (Sm P true ops rest k o st):=by
 refine .inr ⟨rfl,λ c a w F M Q hr=>?_⟩;exact Aed hr hc hg hk Q
def Gh(P:Program)(l:List Oper)(hR:Hp)(r:List (Nat×Nat))(k:Kt)(kd:Nat)(dst:Option Nat)(st:St)(h:Hp)(T:List Nat)(f:FuncId)(ds:List D)(hs:Hp)(S:Prop):Prop:=
 (B1 P f ds hs λ h' x=>fresh (dst.getD 0) h h'/\Hd kd (merge T (dst.getD 0) h h') hR/\G P l hR r k (({st with hp:=merge T (dst.getD 0) h h'}:St).put dst (x.D8 (back T (dst.getD 0)))))∨S
theorem Ayv(P:Program)(l:List Oper)(hR:Hp)(r:List (Nat×Nat))(k:Kt)(kd:Nat)(dst:Option Nat)(st:St)(f:FuncId)(ds:List D)(h:Hp)(T:List Nat)(S:Prop):
   Gk P l hR r k kd dst st f ds h T S=Gh P l hR r k kd dst st h T f (Hz (idx T base) ds) (sub h (idx T base) base T) S:=nd rfl
theorem Ap6{P:Program}{l:List Oper}{hR:Hp}{r:List (Nat×Nat)}{k:Kt}{kd:Nat}{dst:Option Nat}{st:St}{h:Hp}{T:List Nat}{f:FuncId}{ds:List D}{hs:Hp}{S:Prop}{R:Hp->D->Prop}(hc:B1 P f ds hs R)
   (hk:∀h' x,R h' x->fresh (dst.getD 0) h h'/\Hd kd (merge T (dst.getD 0) h h') hR/\G P l hR r k (({st with hp:=merge T (dst.getD 0) h h'}:St).put dst (x.D8 (back T (dst.getD 0))))):Gh P l hR r k kd dst st h T f ds hs S:= .inl (hc.mono hk)
theorem Az1{P:Program}{l:List Oper}{hR:Hp}{r:List (Nat×Nat)}{k:Kt}{kd:Nat}{o:Oper}{st:St}{fo:Operand}{args:List Operand}{g:FuncId}{cap ds:List D}{R:Hp->D->Prop}
   (ho:De o.op=some (fo,args)) (hg:ev st fo= .fn g cap) (hc:B1 P g ds [] R) (hb:GS st.hp (args.map (ev st)++cap) ds)
   (hk:∀h x,R h x->h=[]/\x.flat=true/\Hd kd st.hp hR/\G P l hR r k (st.put o.dst x)):Bq P l hR r k kd o st:=
 ⟨fo,args,g,cap,ds,ho,hg,hb,hc.mono λ h x hx=>by
   obtain ⟨h1,h2,h3,h4⟩:=hk h x hx;exact ⟨h1,by rw[Ds];exact h3,by rw[Tc h2];exact h4⟩⟩
theorem LX{P:Program}{l:List Oper}{hR:Hp}{r:List (Nat×Nat)}{k:Kt}{kd:Nat}{o:Oper}{st:St}{fo:Operand}{args:List Operand}{g:FuncId}{cap ds:List D}{R:Hp->D->Prop}{dst:Option Nat}{h:Hp}{T:List Nat}{f':FuncId}{ZY:List D}{hs:Hp}{st':St}
   (ho:De o.op=some (fo,args)) (hg:ev st fo= .fn g cap) (hc:B1 P g ds [] R) (hb:GS st.hp (args.map (ev st)++cap) ds)
   (hk:∀h x,R h x->h=[]/\x.flat=true/\Hd kd st.hp hR/\G P l hR r k (st.put o.dst x)):Gh P l hR r k kd dst st' h T f' ZY hs (Bq P l hR r k kd o st):= .inr (Az1 ho hg hc hb hk)
theorem Avl{P:Program}{ops rest:List Oper}{k:Kt}{st:St}{o:Oper}{fo:Operand}{args:List Operand}{g:FuncId}{cap ds:List D}{R:Hp->D->Prop}
   (ho:De o.op=some (fo,args)) (hg:ev st fo= .fn g cap) (hc:B1 P g ds [] R) (hb:GS st.hp (args.map (ev st)++cap) ds)
   (hk:∀h x,R h x->h=[]/\x.flat=true/\O P true ops rest k (st.put o.dst x)):Sm P true ops rest k o st:=
 ⟨rfl,λ c a w F M Q hr=>Pf hr ⟨fo,args,g,cap,ds,ho,hg,hb,hc.mono λ h x hx=>by
   obtain ⟨h1,h2,h3⟩:=hk h x hx;exact ⟨h1,by rw[Tc h2];exact h3⟩⟩ Q⟩
theorem As6{P:Program}{ops rest:List Oper}{k:Kt}{dst:Option Nat}{st st':St}{h:Hp}{T:List Nat}{f':FuncId}{ZY:List D}{hs:Hp}{o:Oper}{fo:Operand}{args:List Operand}{g:FuncId}{cap ds:List D}{R:Hp->D->Prop}
   (ho:De o.op=some (fo,args)) (hg:ev st fo= .fn g cap) (hc:B1 P g ds [] R) (hb:GS st.hp (args.map (ev st)++cap) ds)
   (hk:∀h x,R h x->h=[]/\O P true ops rest k (st.put o.dst x.HD)):Cc P true ops rest k dst st' h T f' ZY hs (Sm P true ops rest k o st):=
 .inr ⟨rfl,λ c a w F M Q hr=>Pf hr ⟨fo,args,g,cap,ds,ho,hg,hb,hc.mono hk⟩ Q⟩
theorem Pe{P:Program}{ops rest:List Oper}{k:Kt}{dst:Option Nat}{st st':St}{h:Hp}{T:List Nat}{f':FuncId}{ZY:List D}{hs:Hp}{o:Oper}{fo:Operand}{args:List Operand}{g:FuncId}{cap ds:List D}{R:Hp->D->Prop}
   (ho:De o.op=some (fo,args)) (hg:ev st fo= .fn g cap) (hc:B1 P g ds [] R) (hb:GS st.hp (args.map (ev st)++cap) ds)
   (hk:∀h x,R h x->h=[]/\x.flat=true/\O P true ops rest k (st.put o.dst x)):Cc P true ops rest k dst st' h T f' ZY hs (Sm P true ops rest k o st):= .inr (Avl ho hg hc hb hk)
attribute [go_sem] Rt Az0 Ayv base AO.D8 fresh merge back OG pick List.filter_cons List.filter_nil List.mem_cons List.not_mem_nil or_false false_or or_true true_or List.nodup_cons List.contains_cons List.contains_nil Bool.or_false Bool.or_true Bool.false_or Bool.true_or
attribute [go_sem] Avq Ap4 Ayx Aw0 As0 Avx Ayw As4 Ap9 As2 Avw Avv Ap8 As3 Avu As1 Ap7 D.HD Ix Pd.flat Avz Avs Avy IL FW C3
end Go.Am
end
