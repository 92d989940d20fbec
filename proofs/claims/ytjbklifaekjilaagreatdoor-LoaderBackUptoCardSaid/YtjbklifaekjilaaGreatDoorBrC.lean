/- Texts of this proof, what it rests on, merged: part C. -/
import Derived.ChangeArms
import Derived.ChangeSame
import Derived.OpenShut
import Derived.RowKit
import Derived.Test.YtjbklifaekjilaaGreatDoorBrB
section
set_option linter.unusedVariables false
set_option linter.unusedSimpArgs false
namespace Go.Am
open Go Go.ChangeShapes Go.RowKit
def Uo(P:Program):Nat->List Field->Option Nat
 | o,[]=>some o
 | o,f::r=>if f.offset=o then Uo P (o+P.cellsOf f.type) r else none
def FW(P:Program):Nat->TypeId->Bool
 | 0,_=>false
 | n+1,t=>match P.underlying t with
   | some .bool | some (.int _) | some .string=>true
   | some (.slice e)=>decide (0<P.cellsOf e)&&FW P n e
   | some (.struct fs)=>decide (Uo P 0 fs.toList=some (P.cellsOf t))&&fs.toList.all λ f=>FW P n f.type
   | some (.array m e)=>decide (m*P.cellsOf e=P.cellsOf t)&&FW P n e
   | _=>false
mutual
def E7 {H:Type}:DataW H->List Pd
  | .lit (.int k n)=>[.int k n]
  | .lit (.bool b)=>[.bool b]
  | .lit (.string l)=>[.str l]
  | .nil=>[.sl []]
  | .slice elems _=>[.sl (Acs elems)]
  | .agg parts=>LH parts
  | _=>[]
def Acs {H:Type}:List (DataW H)->List (List Pd)
  | []=>[]
  | d::r=>E7 d::Acs r
def LH {H:Type}:List (DataW H)->List Pd
  | []=>[]
  | d::r=>E7 d++LH r
end
def Aoa{H:Type}(d:DataW H):D:= .p ((E7 d).getD 0 (.bool false))
def PRl(F:Nat->Prop)(w:World)(xs:List Pd)(vs:List Value):Prop:=xs.length=vs.length/\∀(i:Nat) x,xs[i]?=some x->PR F w x (vs.getD i undef)
section
variable {H:Type} {enc:TypeId×Value->H} {P:Program} {w:World} {spare:Nat->Bool} {held:Bool}
theorem PRl.append{F:Nat->Prop}{xs ys:List Pd}{vs ws:List Value}(h:PRl F w xs vs)(h':PRl F w ys ws):PRl F w (xs++ys) (vs++ws):=by
 refine ⟨by simp[h.1,h'.1],λ i x hx=>?_⟩;rw[AN] at hx;rw[Ay,AN,<-h.1];split at hx
 . rename_i hl;rw[if_pos hl];simpa [List.getD] using h.2 i x hx
 . rename_i hl;rw[if_neg hl];simpa [List.getD] using h'.2 _ x hx
theorem PRl.one{F:Nat->Prop}{x:Pd}{v:Value}(h:PR F w x v):PRl F w [x] [v]:=by
 refine ⟨rfl,λ i y hy=>?_⟩;cases i with
 | zero=>simp only[AK,Al] at hy;subst hy;exact h
 | succ i=>simp at hy
theorem PS{F:Nat->Prop}{cs:List Value}{n:Nat}{m:Nat}(ih:∀t,FW P m t=true->∀cs x,DataW.trod enc P w 0 spare held n t cs=some x->PRl F w (E7 x.1) cs):
   ∀(fs:List Field) (xs:List (DataW H×List MemPlace)) (o tot:Nat),xs.length=fs.length->Uo P o fs=some tot->cs.length=tot->(fs.all λ f=>FW P m f.type)=true->
     (∀(i:Nat) (f:Field),fs[i]?=some f->DataW.trod enc P w 0 spare held n f.type ((cs.drop f.offset).take (P.cellsOf f.type))=xs[i]?)->PRl F w (LH (xs.map (·.1))) (cs.drop o)
 | [],xs,o,tot,hl,hc,hcs,_,_=>by
   have:xs=[]:=A1 hl;subst this;simp only[Uo,Al] at hc;subst hc;rw[BG (by omega)];exact ⟨rfl,λ i x hx=>by simp[LH] at hx⟩
 | f::r,xs,o,tot,hl,hc,hcs,hp,hx=>by
   cases xs with
   | nil=>simp at hl
   | cons x xs=>
     simp only[Uo] at hc;split at hc
     case isFalse=>cases hc
     rename_i ho;simp only[List.all_cons,Ao] at hp;have h0:=hx 0 f rfl;simp only[AK] at h0;have h1:=ih f.type hp.1 _ _ h0;have h2:=PS ih r xs (o+P.cellsOf f.type) tot (by simpa using hl) hc hcs hp.2 (λ i g hg=>by simpa using hx (i+1) g (by simpa using hg));have e:cs.drop o=(cs.drop f.offset).take (P.cellsOf f.type)++cs.drop (o+P.cellsOf f.type):=by
       rw[ho,<-List.drop_drop,List.take_append_drop]
     rw[e];simp only[AD,LH];exact h1.append h2
theorem R5{F:Nat->Prop}{cs:List Value}{e:TypeId}{n k:Nat}(ih:∀cs x,DataW.trod enc P w 0 spare held n e cs=some x->PRl F w (E7 x.1) cs):
   ∀(xs:List (DataW H×List MemPlace)) (i0:Nat),cs.length=(i0+xs.length)*k->(∀i,i<xs.length->DataW.trod enc P w 0 spare held n e ((cs.drop ((i0+i)*k)).take k)=xs[i]?)->
     PRl F w (LH (xs.map (·.1))) (cs.drop (i0*k))
 | [],i0,hl,_=>by
   rw[BG (by simp at hl;omega)];exact ⟨rfl,λ i x hx=>by simp[LH] at hx⟩
 | x::xs,i0,hl,hx=>by
   have h0:=hx 0 (by simp);simp only[Bj,AK] at h0;have h1:=ih _ _ h0;have h2:=R5 ih xs (i0+1) (by rw[hl];simp only[Ar];rw[show i0+(xs.length+1)=i0+1+xs.length by omega]) (λ i hi=>by
     have:=hx (i+1) (by simp only[Ar];omega);rw[show i0+(i+1)=i0+1+i by omega] at this
     simpa using this)
   have e:cs.drop (i0*k)=(cs.drop (i0*k)).take k++cs.drop ((i0+1)*k):=by
     rw[Bf,Nat.one_mul,<-List.drop_drop,List.take_append_drop]
   rw[e];simp only[AD,LH];exact h1.append h2
theorem Rp{base n:Nat}{a:Addr}{cs:List Value}(h:w.cells? base a n=some cs):cs.length=n/\∀j,j<n->w.cell? (a.add j)=cs[j]?:=by
 unfold World.cells? at h;split at h
 . exact ⟨by simpa using mapM_some_length h,λ j hj=>mapM_some_get h j j (by simp[hj])⟩
 . cases h
theorem Wh(xs:List (DataW H×List MemPlace)):Acs (xs.map (·.1))=xs.map λ x=>E7 x.1:=by
 induction xs with
 | nil=>rfl
 | cons x r ih=>simp[Acs,ih]
theorem j9{w:World}{a:Addr}{v:Value}(h:w.cell? a=some v):∃c t fr,w.heap[a.block]?=some (.cells c t fr)/\a.spot=none/\c[a.off]?=some v:=by
 unfold World.cell? at h;split at h
 . rename_i c t fr hb;split at h
   . cases h
   . rename_i hs;exact ⟨c,t,fr,hb,by simpa using hs,h⟩
 . cases h
theorem Awl{F:Nat->Prop}(hF:∀b,b<w.heap.size->F b):∀(m:Nat) (t:TypeId),FW P m t=true->∀(fuel:Nat) (cs:List Value) (x:DataW H×List MemPlace),
   DataW.trod enc P w 0 spare held fuel t cs=some x->PRl F w (E7 x.1) cs:=by
 intro m
 induction m with
 | zero=>intro t h;simp[FW] at h
 | succ m ih=>
   intro t ht fuel cs x h;simp only[FW] at ht;split at ht
   . rename_i hu;obtain ⟨b,rfl,rfl⟩:=DataW.trod_bool hu h;exact .one (.bool b)
   . rename_i k hu;obtain ⟨n,rfl,rfl,_⟩:=DataW.trod_int hu h;exact .one (.int k n)
   . rename_i hu;obtain ⟨s,rfl,rfl,_⟩:=DataW.trod_string hu h;have:=PR.str (F:=F) (w:=w) s.data.toList;exact .one (by simpa using this)
   . rename_i e hu;simp only[Ao,Aq] at ht;obtain ⟨hk,hpe⟩:=ht;rcases DataW.trod_slice hu h with ⟨rfl,rfl⟩ | ⟨a,len,cap,elems,rest,n,rfl,rfl,rfl,hb,hl,hc,hel,Cs,_,_⟩
     . exact .one (.Vz none 0)
     . refine .one ?_;simp only[Wh];have hg:∀(i:Nat) y,elems[i]?=some y->∃cs',w.cells? 0 (a.add (i*P.cellsOf e)) (P.cellsOf e)=some cs'/\PRl F w (E7 y.1) cs':=by
         intro i y hy;have hi:i<len:=by rw[<-hel];exact (An.1 hy).1
         have:=Cs i hi;rw[hy] at this;obtain ⟨cs',h1,h2⟩:=Option.bind_eq_some_iff.1 this;exact ⟨cs',h1,ih e hpe _ _ _ h2⟩
       have Iy:∀(i:Nat) z,(elems.map λ x=>E7 x.1)[i]?=some z->∃y,elems[i]?=some y/\z=E7 y.1:=by
         intro i z hz;rw[AQ] at hz;cases hy:elems[i]? with
         | none=>rw[hy] at hz;cases hz
         | some y=>rw[hy] at hz;cases hz;exact ⟨y,rfl,rfl⟩
       by_cases h0:len=0
       . have:elems=[]:=A1 (hel.trans h0);subst this;subst h0;exact .Vz (some a) cap
       . have h00:∃y,elems[0]?=some y:=⟨_,Ax (by omega)⟩;obtain ⟨y,hy⟩:=h00;obtain ⟨cs',h1,_⟩:=hg 0 y hy;obtain ⟨hln,N0⟩:=Rp h1;have V8:=N0 0 hk;rw[Ax (by omega)] at V8;obtain ⟨c,te,fr,hh,Asp,_⟩:=j9 V8;obtain ⟨b,off,spot⟩:=a;simp[Addr.add] at hh Asp;subst Asp;have CP:∀(i:Nat) z (j:Nat) q,(elems.map λ x=>E7 x.1)[i]?=some z->z[j]?=some q->∃v,c[off+i*P.cellsOf e+j]?=some v/\PR F w q v:=by
           intro i z j q hz hq;obtain ⟨y,hy,rfl⟩:=Iy i z hz;obtain ⟨cs2,h3,h4⟩:=hg i y hy;obtain ⟨Bbq,Av0⟩:=Rp h3;have hj:j<P.cellsOf e:=by
             have:=(An.1 hq).1;rw[h4.1,Bbq] at this;exact this
           have h5:=Av0 j hj;rw[Ax (by omega)] at h5;obtain ⟨c2,te2,fr2,hh2,_,h6⟩:=j9 h5;simp only[Addr.add_lit] at hh2 h6;rw[hh] at hh2;cases hh2;refine ⟨_,h6,?_⟩;have:=h4.2 j q hq;rwa[Ay,Ax (by omega)] at this
         have hlen:(elems.map λ x=>E7 x.1).length=len:=by simp[hel]
         have:=PR.sl (F:=F) (w:=w) (elems.map λ x=>E7 x.1) b off cap (P.cellsOf e) c te fr (hF b (Ba.1 hh).1) hh (by omega)
           (λ i z hz=>by
             obtain ⟨y,hy,rfl⟩:=Iy i z hz;obtain ⟨cs2,h3,h4⟩:=hg i y hy;rw[h4.1,(Rp h3).1])
           (λ i z j q hz hq=>by obtain ⟨v,hv,_⟩:=CP i z j q hz hq;exact (Ba.1 hv).1)
           (λ i z j q hz hq=>by
             obtain ⟨v,hv,hp⟩:=CP i z j q hz hq;rw[As,hv];exact hp)
         rwa[hlen] at this
   . rename_i fs hu;simp only[Ao,Aq] at ht;obtain ⟨xs,n,rfl,rfl,hl,Zm,Cs⟩:=DataW.trod_struct hu h;have:=PS (F:=F) (cs:=cs) (λ t ht cs x hx=>ih t ht n cs x hx) fs.toList xs 0 _ (by simpa using Zm) ht.1 hl ht.2 (λ i f hf=>Cs i f (by simpa using hf))
     simpa [E7] using this
   . rename_i k e hu;simp only[Ao,Aq] at ht;obtain ⟨xs,n,rfl,rfl,hl,Zm,Cs⟩:=DataW.trod_array hu h;have:=R5 (F:=F) (cs:=cs) (λ cs x hx=>ih e ht.2 n cs x hx) xs 0 (by rw[hl,Zm,A2,ht.1]) (λ i hi=>by rw[A2];exact Cs i (by omega))
     simpa [E7] using this
   . cases ht
end
end Go.Am
namespace Go.Am
open Go Go.ChangeShapes Go.RowKit
section
variable {H:Type} {enc:TypeId×Value->H} {P:Program} {w:World} {held:Bool}
theorem Atg{sp:Nat->Bool}:∀(m:Nat) (t:TypeId),FW P m t=true->∀(fuel:Nat) (cs:List Value) (x:DataW H×List MemPlace),
   DataW.trod enc P w 0 (λ _=>true) held fuel t cs=some x->(∀p∈x.2,sp p.block=true)->DataW.trod enc P w 0 sp held fuel t cs=some x:=by
 intro m
 induction m with
 | zero=>intro t h;simp[FW] at h
 | succ m ih=>
   intro t ht fuel cs x h FT;cases fuel with
   | zero=>simp[DataW.trod] at h
   | succ n=>
   simp only[FW] at ht;split at ht
   . rename_i hu;obtain ⟨b,rfl,rfl⟩:=DataW.trod_bool hu h;simp[DataW.trod,hu]
   . rename_i k hu;obtain ⟨j,rfl,rfl,hw⟩:=DataW.trod_int hu h;simp[DataW.trod,hu,hw]
   . rename_i hu;obtain ⟨s,rfl,rfl,hl⟩:=DataW.trod_string hu h;simp[DataW.trod,hu,hl]
   . rename_i e hu;simp only[Ao,Aq] at ht;obtain ⟨hk,hpe⟩:=ht;unfold DataW.trod at h ⊢;rw[hu] at h ⊢;split at h;all_goals first | (simp_all;done) | skip
     rename_i e1 a len cap he;simp only[Al,TypeDesc.slice.injEq] at he;subst he;simp only at h ⊢;split at h
     case isFalse=>cases h
     rename_i hb;rw[if_pos hb];simp only[Option.bind_eq_some_iff,BC,AM] at h ⊢;obtain ⟨elems,hel,rest,hre,rfl⟩:=h;have LW:∀y∈elems++rest,∀p∈y.2,sp p.block=true:=λ y hy p hp=>FT p (by
       simp only[Av,Br];exact .inr ⟨y,by simpa using hy,hp⟩)
     have step:∀(i:Nat) (y:DataW H×List MemPlace),y∈elems++rest->(w.cells? 0 (a.add (i*P.cellsOf e)) (P.cellsOf e)).bind (DataW.trod enc P w 0 (λ _=>true) held n e)=some y->
         (w.cells? 0 (a.add (i*P.cellsOf e)) (P.cellsOf e)).bind (DataW.trod enc P w 0 sp held n e)=some y:=by
       intro i y hy h1;obtain ⟨cs',h2,h3⟩:=Option.bind_eq_some_iff.1 h1;exact Option.bind_eq_some_iff.2 ⟨cs',h2,ih e hpe _ _ _ h3 (LW y hy)⟩
     refine ⟨elems,mapM_carry hel (λ i y _ hy h1=>step i y (by simp[hy]) h1),rest,?_,rfl⟩;by_cases hc:cap - len=0
     . rw[hc] at hre ⊢;split
       . exact hre
       . simpa using hre
     . have Xx:rest.length=cap - len:=by simpa using mapM_some_length hre
       have Rb:sp a.block=true:=FT (.cell a.block a.off) (by
         simp only[Av];refine .inl (MemPlace.mem_row.2 ⟨0,?_,by simp⟩);exact Nat.mul_pos (by omega) hk)
       rw[if_pos Rb];exact mapM_carry hre (λ j y _ hy h1=>step (len+j) y (by simp[hy]) h1)
   . rename_i fs hu;simp only[Ao,Aq] at ht;unfold DataW.trod at h ⊢;rw[hu] at h ⊢;split at h;all_goals first | (simp_all;done) | skip
     rename_i fs' he;simp only[Al,TypeDesc.struct.injEq] at he;subst he;(try simp only at h);split at h
     case isFalse=>cases h
     rename_i hl;rw[if_pos hl];simp only[BC] at h ⊢;obtain ⟨xs,hx,rfl⟩:=h;refine ⟨xs,mapM_carry hx (λ f y hf hy h1=>ih f.type (AB.1 ht.2 f hf) _ _ _ h1 λ p hp=>FT p ?_),rfl⟩;simp only[Br];exact ⟨y,hy,hp⟩
   . rename_i k e hu;simp only[Ao,Aq] at ht;unfold DataW.trod at h ⊢;rw[hu] at h ⊢;split at h;all_goals first | (simp_all;done) | skip
     rename_i k' e' he;simp only[Al,TypeDesc.array.injEq] at he;obtain ⟨rfl,rfl⟩:=he;(try simp only at h);split at h
     case isFalse=>cases h
     rename_i hl;rw[if_pos hl];simp only[BC] at h ⊢;obtain ⟨xs,hx,rfl⟩:=h;refine ⟨xs,mapM_carry hx (λ i y _ hy h1=>ih _ ht.2 _ _ _ h1 λ p hp=>FT p ?_),rfl⟩;simp only[Br];exact ⟨y,hy,hp⟩
   . cases ht
end
def UT(P:Program)(t:TypeId):Bool:=FW P 30 t&&match P.underlying t with
 | some (.struct _)=>false
 | some (.array _ _)=>false
 | _=>true
section
variable {H:Type} {enc:TypeId×Value->H} {P:Program} {W:World}
theorem Ahz{t:TypeId}{v:Value}{d:DataW H}{ps:List MemPlace}{sp:Nat->Bool}{M:Nat->Mb}{s:Nat->Option Sg}(ht:UT P t=true){bs:Nat}(RY:Value.okWide P W .any bs t v)
   (h:DataW.Trod enc P W 0 sp true t v d ps):DR (λ b=>b<W.heap.size) W M s (Aoa d) v:=by
 unfold UT at ht;simp only[Ao] at ht;obtain ⟨hp,hs⟩:=ht;obtain ⟨fuel,hf⟩:=h;have h1:=Awl (F:=λ b=>b<W.heap.size) (λ _ h=>h) 30 t hp _ _ _ hf;have NG:v.cells=#[v]:=by
   cases v with
   | agg cs=>
     exfalso;unfold Value.okWide Cell.okWide Cell.ok at RY;cases hu:P.underlying t with
     | none=>rw[hu] at RY;simp at RY
     | some u=>rw[hu] at RY hs;cases u<;>simp[FW,hu] at RY hs hp
   | _=>rfl
 rw[NG] at h1;have hl:(E7 d).length=1:=h1.1;obtain ⟨x,hx⟩:=List.length_eq_one_iff.1 hl;unfold Aoa;simp only[hx,A3];have:=h1.2 0 x (by simp[hx]);exact .p this
theorem Uv{bs:Nat}{sp:Nat->Bool}{M:Nat->Mb}{s:Nat->Option Sg}:∀{ts:List TypeId} {vs:List Value} {ds:List (DataW H)} {ps:List MemPlace},(ts.all (UT P))=true->
   (∀(j:Nat) t v,ts[j]?=some t->vs[j]?=some v->Value.okWide P W .any bs t v)->DataW.TrodAll enc P W 0 sp true ts vs ds ps->IW (λ b=>b<W.heap.size) W M s (ds.map Aoa) vs
 | [],vs,ds,ps,_,_,h=>by
   obtain ⟨rfl,rfl,_⟩:=trodAll_nil h;exact ⟨rfl,λ i d hd=>by simp at hd⟩
 | t::ts,vs,ds,ps,ht,RY,h=>by
   obtain ⟨v,vs',d,ds',p,q,rfl,rfl,_,h1,h2⟩:=trodAll_cons h;simp only[List.all_cons,Ao] at ht;have h3:=Ahz (M:=M) (s:=s) ht.1 (RY 0 t v rfl rfl) h1;have h4:=Uv (M:=M) (s:=s) ht.2 (λ j t v h5 h6=>RY (j+1) t v (by simpa using h5) (by simpa using h6)) h2;refine ⟨by simp[h4.1],λ i x hx=>?_⟩;cases i with
   | zero=>simp only[List.map_cons,List.getElem?_cons_zero,Option.some.injEq] at hx;subst hx;simpa [List.getD] using h3
   | succ i=>simp only[List.map_cons,List.getElem?_cons_succ] at hx;simpa [List.getD] using h4.2 i x hx
theorem WI{W':World}{sp:Nat->Bool}(hW:∀b,b<W.heap.size->W'.heap[b]?=W.heap[b]?):∀{ts:List TypeId} {vs:List Value} {ds:List (DataW H)} {ps:List MemPlace},(ts.all (UT P))=true->
   DataW.TrodAll enc P W 0 (λ _=>true) true ts vs ds ps->(∀p∈ps,sp p.block=true)->(∀p∈ps,p.block<W.heap.size)->DataW.TrodAll enc P W' 0 sp true ts vs ds ps
 | [],vs,ds,ps,_,h,_,_=>by
   obtain ⟨rfl,rfl,rfl⟩:=trodAll_nil h;exact trodAll_mk0
 | t::ts,vs,ds,ps,ht,h,FT,Ct=>by
   obtain ⟨v,vs',d,ds',p,q,rfl,rfl,rfl,⟨n,h1⟩,h2⟩:=trodAll_cons h;simp only[List.all_cons,Ao] at ht;have hp:FW P 30 t=true:=by have:=ht.1;unfold UT at this;simp only[Ao] at this;exact this.1
   have h3:=Atg 30 t hp n _ _ h1 (sp:=sp) (λ p hp=>FT p (by simp[hp]));have h4:=DataW.trod_carry n t _ _ h3 (w':=W') (λ p hp=>by
     have:=hW p.block (Ct p (by simp[hp]));cases p with
     | cell b o=>simp only[MemPlace.block] at this;simp[World.sameAt,World.cell?,this]
     | map b=>exact this)
   exact trodAll_cons_mk ⟨n,h4⟩ (WI hW ht.2 h2 (λ p hp=>FT p (by simp[hp])) (λ p hp=>Ct p (by simp[hp])))
theorem Za{W W':World}(hos:W'.os=W.os)(Ow:W'.output=W.output)(h:∀b,b<W.heap.size->W'.heap[b]?=W.heap[b]?)(may:MemPlace->Prop):W.keptBut W' may:=by
 refine ⟨hos,Ow,λ i hi=>?_⟩;rw[h i hi];split
 . rename_i h1 h2;cases h1.symm.trans h2;exact ⟨rfl,rfl,rfl,λ _ _=>rfl⟩
 . rename_i h1 h2;cases h1.symm.trans h2;exact .inr ⟨rfl,rfl⟩
 . rfl
end
end Go.Am
namespace Go.Am
open Go
def HX(e h h':Hp):Prop:=∀id,get h' id=match get h id with | some o=>some o | none=>get e id
theorem Rs.Qa{α:Type}{p:Prop}{k:α->Prop}:∀{r:Rs α},p->r.all k->(r.and p).all k
 | .fail,_,h=>h.elim
 | .ret q a,hp,h=>⟨⟨hp,h.1⟩,h.2⟩
 | .split b x y,hp,h=>⟨λ e=>Rs.Qa hp (h.1 e),λ e=>Rs.Qa hp (h.2 e)⟩
theorem Rs.CF{α β:Type}{f:α->Rs β}{k:β->Prop}:∀{r:Rs α},r.all (λ a=>(f a).all k)->(r.bind f).all k
 | .fail,h=>h.elim
 | .ret p a,h=>Rs.Qa h.1 h.2
 | .split b x y,h=>⟨λ e=>Rs.CF (h.1 e),λ e=>Rs.CF (h.2 e)⟩
section
variable {P:Program} {e h h':Hp}
theorem HX.sm(hx:HX e h h'){id:Nat}{o:AO}(hg:get h id=some o):get h' id=some o:=by rw[hx,hg]
theorem HX.nn(hx:HX e h h'){id:Nat}(hg:get h id=none)(he:get e id=none):get h' id=none:=by rw[hx,hg];exact he
theorem HX.sg(hx:HX e h h'){id:Nat}{s:Sg}(hg:sg h id=some s):sg h' id=some s:=by
 unfold Go.Am.sg at*;cases ho:get h id with
 | none=>rw[ho] at hg;cases hg
 | some o=>rw[ho] at hg;rw[hx.sm ho];exact hg
theorem HX.cur(hx:HX e h h'){id N:Nat}(hc:Ab9 h id N):Ab9 h' id N:=by
 unfold Ab9 at*;cases hs:Go.Am.sg h id with
 | none=>rw[hs] at hc;exact hc.elim
 | some s=>rw[hs] at hc;rw[hx.sg hs];exact hc
theorem HX.Cw(hx:HX e h h')(id:Nat)(o:AO):HX e (Cw h id o) (Cw h' id o):=by
 intro j;rw[CM,CM];by_cases ej:j=id
 . rw[if_pos ej,if_pos ej]
 . rw[if_neg ej,if_neg ej];exact hx j
theorem HX.cons(hx:HX e h h')(id:Nat)(o:AO):HX e ((id,o)::h) ((id,o)::h'):=by
 intro j;rw[Cp,Cp];by_cases ej:id=j
 . rw[if_pos ej,if_pos ej]
 . rw[if_neg ej,if_neg ej];exact hx j
theorem HX.froze(hx:HX e h h'){id:Nat}{o:AO}(hg:get h id=some o):HX e (froze h id) (froze h' id):=by
 unfold Go.Am.froze;rw[hg,hx.sm hg];cases o<;>first | exact hx.Cw _ _ | exact hx
theorem HX.refl(h:Hp):HX [] h h:=by
 intro id;cases get h id<;>rfl
theorem HX.one{q:Nat}{o:AO}(hq:get h q=none):HX [(q,o)] h ((q,o)::h):=by
 intro id;simp only[Cp];by_cases ej:q=id
 . subst ej;rw[hq];simp
 . rw[if_neg ej,if_neg ej];cases get h id<;>rfl
theorem Ak5(hx:HX e h h'){t:TypeId}{d:D}{k:D->Prop}(hh:(Mi P h t d).all k):(Mi P h' t d).all k:=by
 unfold Mi at*;split at hh
 . split at hh
   . rename_i h2;simp only[hx.sm h2];exact hh
   . exact hh.elim
 . exact hh
 . split at hh
   . rename_i h2;simp only[hx.sm h2];exact hh
   . rename_i h2;simp only[hx.sm h2];exact hh
   . exact hh.elim
 . split at hh
   . rename_i h2;simp only[hx.sm h2];exact hh
   . exact hh.elim
 . exact hh.elim
theorem Vh(hx:HX e h h'){t:TypeId}{d:D}{f:Nat}{k:D->Prop}(hh:(GW P t d f h).all k):(GW P t d f h').all k:=by
 unfold GW at*;split at hh
 . split at hh
   . split at hh
     . split at hh
       . exact hh
       . exact hh
       . exact ⟨⟨hh.1.1,hx.cur hh.1.2⟩,hh.2⟩
       . exact hh.elim
     . exact hh.elim
   . exact hh.elim
 . exact hh.elim
theorem U5(hx:HX e h h'){t:TypeId}{d i:D}{k:D->Prop}(hh:(GV P t d i h).all k):(GV P t d i h').all k:=by
 unfold GV at*;split at hh
 . split at hh
   . split at hh
     . exact hh
     . exact hh
     . split at hh
       . rename_i h2;simp only[hx.sg h2];exact hh
       . exact hh.elim
     . exact hh
     . exact hh.elim
   . exact hh.elim
 . exact hh
 . exact hh.elim
theorem Acd(hx:HX e h h'){t:TypeId}{d:D}{k:D->Prop}(hh:(Aad P h t d).all k):(Aad P h' t d).all k:=by
 unfold Aad at*;split at hh
 . split at hh
   . exact hh
   . exact hh
   . exact hh
   . exact ⟨hx.cur hh.1,hh.2⟩
   . exact hh
   . exact hh
   . exact hh
   . exact hh.elim
 . exact hh.elim
theorem Adp{env:List (Nat×D)}{n:Nat}(hx:HX e h h'){t:TypeId}{x:D}{lo hi mx:Option Operand}{k:D->Prop}(hh:(HO P ⟨env,h,n⟩ t x lo hi mx).all k):(HO P ⟨env,h',n⟩ t x lo hi mx).all k:=by
 unfold HO at*;split at hh
 . exact hh
 . split at hh
   . split at hh
     . exact hh
     . split at hh
       . rename_i h2;simp only[hx.sg h2];exact hh
       . exact hh.elim
     . exact hh.elim
   . exact hh.elim
 . exact hh.elim
theorem Aaa(hx:HX e h h'){t:TypeId}{x i:D}{ok:Bool}{k:D->Prop}(hh:(K7 P h t x i ok).all k):(K7 P h' t x i ok).all k:=by
 unfold K7 at*;split at hh
 . split at hh
   . rename_i h1;simp only[hx.sm h1];exact hh
   . exact hh.elim
 . exact hh.elim
theorem Aeg(hx:HX e h h'){t:TypeId}{m i v:D}{k:Hp->Prop}(hh:(J3 P h t m i v).all k):(J3 P h' t m i v).all (λ y=>∃h1,HX e h1 y/\k h1):=by
 unfold J3 at*;split at hh
 . split at hh
   . rename_i h1;simp only[hx.sm h1];exact ⟨hh.1,_,hx.Cw _ _,hh.2⟩
   . exact hh.elim
 . exact hh.elim
theorem Abq{env:List (Nat×D)}{n:Nat}(hx:HX e h h'){op:Op}{k:D->Prop}(hh:(JW P ⟨env,h,n⟩ op).all k):(JW P ⟨env,h',n⟩ op).all k:=by
 unfold JW at*;cases op<;>simp only at hh ⊢<;>first
   | exact hh
   | exact Ak5 hx hh
   | exact Adp hx hh
   | exact Vh hx hh
   | exact U5 hx hh
   | exact Aaa hx hh
   | skip
 . have ee:∀x,ev ⟨env,h',n⟩ x=ev ⟨env,h,n⟩ x:=λ _=>rfl;simp only[ee];split at hh
   . rename_i h1;exact hh
   . rename_i h1;exact hh
   . rename_i h1;exact ⟨hx.cur hh.1,hh.2⟩
   . exact hh.elim
 . rename_i fn _ _;cases fn<;>first
     | exact hh
     | exact hh.elim
theorem Fv(hx:HX e h h'){d:D}{k:D×Hp->Prop}(hh:(Sw h d).all k):(Sw h' d).all (λ y=>∃h1,HX e h1 y.2/\k (y.1,h1)):=by
 unfold Sw at*;split at hh
 . split at hh
   . rename_i h1;simp only[hx.sm h1];exact ⟨hh.1,_,hx.froze h1,hh.2⟩
   . rename_i h1;simp only[hx.sm h1];exact ⟨hh.1,_,hx,hh.2⟩
   . exact hh.elim
 . split at hh
   . rename_i h1;simp only[hx.sm h1];exact ⟨hh.1,_,hx.Cw _ _,hh.2⟩
   . exact hh.elim
 . exact ⟨hh.1,_,hx,hh.2⟩
 . exact ⟨hh.1,_,hx,hh.2⟩
mutual
theorem Ao5:∀{d:D} {h h':Hp} (_:HX e h h') {k:D×Hp->Prop} (_:(CZ h d).all k),(CZ h' d).all (λ y=>∃h1,HX e h1 y.2/\k (y.1,h1))
  | .agg cs,h,h',hx,k,hh=>by
    simp only[CZ] at*;exact Rs.CF (Rs.Ce (λ y hy=>by obtain ⟨h1,IH,h2⟩:=hy;exact ⟨h2.1,h1,IH,h2.2⟩) (Nv hx (Rs.all_bind hh)))
  | .Dg cs,h,h',hx,k,hh=>by
    simp only[CZ] at*;exact Rs.CF (Rs.Ce (λ y hy=>by obtain ⟨h1,IH,h2⟩:=hy;exact ⟨h2.1,h1,IH,h2.2⟩) (Nv hx (Rs.all_bind hh)))
  | .p _,h,h',hx,k,hh=>by simp only[CZ] at*;exact Fv hx hh
  | .cl _,h,h',hx,k,hh=>by simp only[CZ] at*;exact Fv hx hh
  | .cz _,h,h',hx,k,hh=>by simp only[CZ] at*;exact Fv hx hh
  | .ref _ _ _ _,h,h',hx,k,hh=>by simp only[CZ] at*;exact Fv hx hh
  | .ptr _ _,h,h',hx,k,hh=>by simp only[CZ] at*;exact Fv hx hh
  | .pe _,h,h',hx,k,hh=>by simp only[CZ] at*;exact Fv hx hh
  | .ea _ _ _ _,h,h',hx,k,hh=>by simp only[CZ] at*;exact Fv hx hh
  | .fn _ _,h,h',hx,k,hh=>by simp only[CZ] at*;exact Fv hx hh
  | .np,h,h',hx,k,hh=>by simp only[CZ] at*;exact Fv hx hh
  | .mv _,h,h',hx,k,hh=>by simp only[CZ] at*;exact Fv hx hh
  | .Di _ _,h,h',hx,k,hh=>by simp only[CZ] at*;exact Fv hx hh
  | .LL _ _ _,h,h',hx,k,hh=>by simp only[CZ] at*;exact Fv hx hh
  | .nr _ _ _ _,h,h',hx,k,hh=>by simp only[CZ] at*;exact Fv hx hh
  | .Qs,h,h',hx,k,hh=>by simp only[CZ] at*;exact Fv hx hh
  | .bad,h,h',hx,k,hh=>by simp only[CZ] at*;exact Fv hx hh
theorem Nv:∀{ds:List D} {h h':Hp} (_:HX e h h') {k:List D×Hp->Prop} (_:(FO h ds).all k),(FO h' ds).all (λ y=>∃h1,HX e h1 y.2/\k (y.1,h1))
  | [],h,h',hx,k,hh=>by simp only[FO] at*;exact ⟨hh.1,_,hx,hh.2⟩
  | d::r,h,h',hx,k,hh=>by
    simp only[FO] at*;refine Rs.CF (Rs.Ce (λ y hy=>?_) (Ao5 hx (Rs.all_bind hh)));obtain ⟨h1,IH,h2⟩:=hy;exact Rs.CF (Rs.Ce (λ z hz=>by obtain ⟨h3,hx3,h4⟩:=hz;exact ⟨h4.1,h3,hx3,h4.2⟩) (Nv IH (Rs.all_bind h2)))
end
theorem Aps(hx:HX e h h'){d:D}{k:Pd×Hp->Prop}(hh:(UY h d).all k):(UY h' d).all (λ y=>∃h1,HX e h1 y.2/\k (y.1,h1)):=by
 unfold UY at*;split at hh
 . exact ⟨hh.1,_,hx,hh.2⟩
 . exact ⟨hh.1,_,hx,hh.2⟩
 . exact ⟨hh.1,_,hx,hh.2⟩
 . split at hh
   . rename_i h1;simp only[hx.sm h1];exact ⟨hh.1,_,hx.froze h1,hh.2⟩
   . rename_i h1;simp only[hx.sm h1];exact ⟨hh.1,_,hx,hh.2⟩
   . exact hh.elim
 . split at hh
   . rename_i h1;simp only[hx.sm h1];exact ⟨hh.1,_,hx.Cw _ _,hh.2⟩
   . exact hh.elim
 . exact hh.elim
theorem Th:∀{ds:List D} {h h':Hp} (_:HX e h h') {k:List Pd×Hp->Prop} (_:(Ij h ds).all k),(Ij h' ds).all (λ y=>∃h1,HX e h1 y.2/\k (y.1,h1))
 | [],h,h',hx,k,hh=>by simp only[Ij] at*;exact ⟨hh.1,_,hx,hh.2⟩
 | d::r,h,h',hx,k,hh=>by
   simp only[Ij] at*;refine Rs.CF (Rs.Ce (λ y hy=>?_) (Aps hx (Rs.all_bind hh)));obtain ⟨h1,IH,h2⟩:=hy;exact Rs.CF (Rs.Ce (λ z hz=>by obtain ⟨h3,hx3,h4⟩:=hz;exact ⟨h4.1,h3,hx3,h4.2⟩) (Th IH (Rs.all_bind h2)))
theorem Abu(hx:HX e h h'){d:D}{k:List (List Pd)->Prop}(hh:(SW h d).all k):(SW h' d).all k:=by
 unfold SW at*;split at hh
 . exact hh
 . exact hh
 . exact hh
 . split at hh
   . rename_i h1;simp only[hx.sm h1];exact hh
   . rename_i h1;simp only[hx.sm h1];exact hh
   . exact hh.elim
 . exact hh.elim
theorem Arq(hx:HX e h h'){q:Nat}(hq:get e q=none){t t2:TypeId}{s x:D}{k:D×Hp->Prop}(hh:(Uw P h q t t2 s x).all k):(Uw P h' q t t2 s x).all (λ y=>∃h1,HX e h1 y.2/\k (y.1,h1)):=by
 unfold Uw at*;split at hh
 case h_2=>exact hh.elim
 split at hh
 case h_2=>exact hh.elim
 refine Rs.CF (Rs.Ce (λ ys hy=>?_) (Abu hx (Rs.all_bind hh)));split at hy
 . obtain ⟨⟨a1,a2,a3,a4,a5,a6⟩,hk⟩:=hy;exact ⟨⟨a1,a2,a3,a4,hx.nn a5 hq,a6⟩,_,hx.cons _ _,hk⟩
 . obtain ⟨⟨a1,a2,a3,a4,a5,a6⟩,hk⟩:=hy;exact ⟨⟨a1,a2,a3,a4,hx.nn a5 hq,a6⟩,_,hx.cons _ _,hk⟩
 . obtain ⟨h0,hy⟩:=N9 hy;refine Vt h0 ?_;split at hy
   . rename_i h1;simp only[hx.sm h1];exact ⟨hy.1,_,hx.Cw _ _,hy.2⟩
   . exact hy.elim
 . split at hy
   . rename_i h1;obtain ⟨⟨a1,a2,a3,a4,⟨b1,b2,b3,b4,b5,b6⟩,a5⟩,hk⟩:=hy;simp only[hx.sm h1];exact ⟨⟨a1,a2,a3,a4,⟨b1,b2,b3,b4,b5,hx.nn b6 hq⟩,a5⟩,_,(hx.Cw _ _).cons _ _,hk⟩
   . exact hy.elim
 . exact hy.elim
theorem Anr(hx:HX e h h'){t:TypeId}{s x:D}{k:D×Hp->Prop}(hh:(MJ P h t s x).all k):(MJ P h' t s x).all (λ y=>∃h1,HX e h1 y.2/\k (y.1,h1)):=by
 unfold MJ at*;split at hh
 case h_2=>exact hh.elim
 split at hh
 case h_2=>exact hh.elim
 refine Rs.CF (Rs.Ce (λ ys hy=>?_) (Abu hx (Rs.all_bind hh)));split at hy
 case h_2=>exact hy.elim
 split at hy
 case h_2=>exact hy.elim
 rename_i h1;simp only[hx.sm h1];exact ⟨hy.1,_,hx.Cw _ _,hy.2⟩
theorem Xc(hx:HX e h h'){id i n:Nat}{v:D}{k:Hp->Prop}(hh:(FE h id i n v).all k):(FE h' id i n v).all (λ y=>∃h1,HX e h1 y/\k h1):=by
 unfold FE at*;split at hh
 . split at hh
   . rename_i h1 h2;simp only[hx.sm h1,hx.sm h2];exact ⟨hh.1,_,(hx.Cw _ _).Cw _ _,hh.2⟩
   . exact hh.elim
 . exact hh.elim
theorem Adm(hx:HX e h h'){t:TypeId}{a v:D}{k:Hp->Prop}(hh:(JY P h t a v).all k):(JY P h' t a v).all (λ y=>∃h1,HX e h1 y/\k h1):=by
 unfold JY at*;split at hh
 case h_2=>exact hh.elim
 split at hh
 case h_2=>exact hh.elim
 split at hh
 . split at hh
   . rename_i h1;simp only[hx.sm h1];exact ⟨hh.1,_,hx.Cw _ _,hh.2⟩
   . exact hh.elim
 . refine Rs.CF (Rs.Ce (λ y hy=>?_) (Th hx (Rs.all_bind hh)));obtain ⟨h1,IH,hy⟩:=hy;split at hy
   . rename_i h2;simp only[IH.sm h2];exact ⟨hy.1,_,IH.Cw _ _,hy.2⟩
   . exact hy.elim
 . exact Rs.Qa (Rs.EA hh).1 (Xc hx (Rs.EA hh).2)
 . exact hh.elim
end
end Go.Am
namespace Go.Am
open Go
section
variable {P:Program} {e h h':Hp}
theorem K5{env:List (Nat×D)}{n:Nat}(hx:HX e h h'){q:Nat}(hq:get e q=none){op:Op}{k:D×Hp->Prop}(hh:(K6 P ⟨env,h,n⟩ q op).all k):
   (K6 P ⟨env,h',n⟩ q op).all (λ y=>∃h1,HX e h1 y.2/\k (y.1,h1)):=by
 have ee:∀x,ev ⟨env,h',n⟩ x=ev ⟨env,h,n⟩ x:=λ _=>rfl;have ef:ev ⟨env,h',n⟩=ev ⟨env,h,n⟩:=funext ee;unfold K6 at*;simp only[ee] at*;split at hh
 . split at hh
   . split at hh
     . exact ⟨hx.nn hh.1 hq,_,hx.cons _ _,hh.2⟩
     . exact hh.elim
   . exact hh.elim
 . split at hh
   . exact ⟨hx.nn hh.1 hq,_,hx.cons _ _,hh.2⟩
   . exact hh.elim
 . refine Rs.CF (Rs.Ce (λ y hy=>?_) (Adm hx (Rs.all_bind hh)));obtain ⟨h1,IH,hy⟩:=hy;exact ⟨hy.1,h1,IH,hy.2⟩
 . exact ⟨hx.nn hh.1 hq,_,hx.cons _ _,hh.2⟩
 . refine Rs.CF (Rs.Ce (λ y hy=>?_) (Aeg hx (Rs.all_bind hh)));obtain ⟨h1,IH,hy⟩:=hy;exact ⟨hy.1,h1,IH,hy.2⟩
 . split at hh
   . split at hh
     . split at hh
       . split at hh
         . exact hh.elim
         rename_i hn;rw[if_neg hn];refine Rs.CF (Rs.Ce (λ y hy=>?_) (Th hx (Rs.all_bind hh)));obtain ⟨h1,IH,hy⟩:=hy;exact ⟨⟨hy.1.1,hy.1.2.1,IH.nn hy.1.2.2 hq⟩,_,IH.cons _ _,hy.2⟩
       . exact hh.elim
     . exact hh.elim
   . exact hh.elim
 . split at hh
   . split at hh
     . split at hh
       . exact hh.elim
       rename_i hn;rw[if_neg hn];refine Rs.CF (Rs.Ce (λ y hy=>?_) (Rs.all_bind hh));exact ⟨⟨hy.1.1,hx.nn hy.1.2.1 hq,hy.1.2.2⟩,_,hx.cons _ _,hy.2⟩
     . exact hh.elim
   . exact hh.elim
 . exact hh.elim
theorem l0{env:List (Nat×D)}{n:Nat}(hx:HX e h h'){q:Nat}(hq:get e q=none){b:Builtin}{ts:Array TypeId}{args:List D}{k:D×Hp->Prop}(hh:(Fe P ⟨env,h,n⟩ q b ts args).all k):
   (Fe P ⟨env,h',n⟩ q b ts args).all (λ y=>∃h1,HX e h1 y.2/\k (y.1,h1)):=by
 unfold Fe at*;split at hh
 . split at hh
   . refine Rs.CF (Rs.Ce (λ y hy=>?_) (Acd hx (Rs.all_bind hh)));exact ⟨hy.1,_,hx,hy.2⟩
   . exact hh.elim
 . split at hh
   . exact Arq hx hq hh
   . exact hh.elim
 . split at hh
   . exact Anr hx hh
   . exact hh.elim
 . exact ⟨hh.1,_,hx,hh.2⟩
 . exact ⟨hh.1,_,hx,hh.2⟩
 . exact hh.elim
theorem Av9{env:List (Nat×D)}{n:Nat}(hx:HX e h h'){o:Oper}(hq:get e (o.dst.getD 0)=none){k:D×Hp->Prop}(hh:(Ka P ⟨env,h,n⟩ o).all k):
   (Ka P ⟨env,h',n⟩ o).all (λ y=>∃h1,HX e h1 y.2/\k (y.1,h1)):=by
 have val:∀{op:Op},((JW P ⟨env,h,n⟩ op).bind λ d=> .ret True (d,h)).all k->((JW P ⟨env,h',n⟩ op).bind λ d=> .ret True (d,h')).all (λ y=>∃h1,HX e h1 y.2/\k (y.1,h1)):=λ hv=>
   Rs.CF (Rs.Ce (λ d hd=>⟨hd.1,_,hx,hd.2⟩) (Abq hx (Rs.all_bind hv)))
 unfold Ka at*;split at hh
 . split at hh
   . exact l0 hx hq hh
   . exact hh.elim
 . rename_i h1;exact K5 hx hq hh
 . exact K5 hx hq hh
 . exact K5 hx hq hh
 . exact K5 hx hq hh
 . exact K5 hx hq hh
 . exact K5 hx hq hh
 . exact K5 hx hq hh
 . exact val hh
theorem Anx{env:List (Nat×D)}{n:Nat}(hx:HX e h h'){f:Operand}{args:List Operand}{k:FuncId×List D×Hp->Prop}(hh:(Hb ⟨env,h,n⟩ f args).all k):
   (Hb ⟨env,h',n⟩ f args).all (λ y=>∃h1,HX e h1 y.2.2/\k (y.1,y.2.1,h1)):=by
 have ee:∀x,ev ⟨env,h',n⟩ x=ev ⟨env,h,n⟩ x:=λ _=>rfl;have ef:ev ⟨env,h',n⟩=ev ⟨env,h,n⟩:=funext ee;unfold Hb at*;rw[ef];split at hh
 . refine Rs.CF (Rs.Ce (λ y hy=>?_) (Nv hx (Rs.all_bind hh)));obtain ⟨h1,IH,hy⟩:=hy;exact ⟨hy.1,h1,IH,hy.2⟩
 . exact hh.elim
theorem GX:∀(l T:List Nat) (id:Nat),id∈T->id∈Fw T l
 | [],T,id,h=>h
 | i::r,T,id,h=>by
   simp only[Fw];split
   . exact GX r T id h
   . exact GX r _ id (BO _ h)
theorem TH(hx:HX e h h'):∀(l:List Nat),(∀id∈l,(get h id).isSome=true)->IG h' l=IG h l
 | [],_=>rfl
 | i::r,hp=>by
   obtain ⟨o,ho⟩:=Bx.1 (hp i (by simp));simp only[IG,ho,hx.sm ho,TH hx r (λ id hi=>hp id (by simp[hi]))]
theorem PK(hx:HX e h h')(he:∀id,get e id≠none->id<10000){id:Nat}(hid:base<=id):ghost h' id=ghost h id:=by
 have:get h' id=get h id:=by
   rw[hx];cases hg:get h id with
   | some o=>rfl
   | none=>
     cases he2:get e id with
     | none=>rfl
     | some o=>have:=he id (by rw[he2];simp);unfold base at hid;omega
 simp only[ghost,this]
theorem Af9(hx:HX e h h')(he:∀id,get e id≠none->id<10000):Rg h'=Rg h:=by
 simp only[Rg,PK hx he (Ai base),PK hx he (Nat.le_add_right base 1),PK hx he (Nat.le_add_right base 2),PK hx he (Nat.le_add_right base 3)]
theorem WB(hx:HX e h h')(he:∀id,get e id≠none->id<10000)(ids:List Nat)(hp:∀id∈DL h ids,(get h id).isSome=true):DL h' ids=DL h ids:=by
 unfold DL at*;simp only at hp ⊢;have h0:IG h' (Fw [] ids)=IG h (Fw [] ids):=TH hx _ λ id hi=>hp id (GX _ _ _ (GX _ _ _ (GX _ _ _ hi)));rw[h0];have h1:IG h' (Fw (Fw [] ids) (IG h (Fw [] ids)))=IG h (Fw (Fw [] ids) (IG h (Fw [] ids))):=TH hx _ λ id hi=>hp id (GX _ _ _ (GX _ _ _ hi));rw[h1,Af9 hx he]
theorem u5(hx:HX e h h')(ρ:Nat->Option Nat):∀(T:List Nat) (k:Nat),(∀id∈T,(get h id).isSome=true)->sub h' ρ k T=sub h ρ k T
 | [],_,_=>rfl
 | i::r,k,hp=>by
   obtain ⟨o,ho⟩:=Bx.1 (hp i (by simp));simp only[sub,ho,hx.sm ho,u5 hx ρ r (k+1) (λ id hi=>hp id (by simp[hi]))]
theorem Zy(hx:HX e h h'){q:Nat}(hq:∀j,get e (10000*(j+1)+q)=none):∀(l:Hp),fresh q h l->fresh q h' l
 | [],_=>trivial
 | (j,_)::r,hf=>⟨hf.1.imp id λ h1=>hx.nn h1 (hq j),Zy hx hq r hf.2⟩
theorem Pq(hx:HX e h h')(T:List Nat)(q:Nat):∀(l:Hp),HX e (merge T q h l) (merge T q h' l)
 | []=>hx
 | (j,o)::r=>by
   simp only[merge];split
   . exact (Pq hx T q r).Cw _ _
   . exact Pq hx T q r
theorem Ao0(hx:HX e h h'){f:FuncId}{ds:List D}{q:Nat}(he:∀id,get e id≠none->id<10000)(hq:∀j,get e (10000*(j+1)+q)=none){k:D->Hp->Prop}(hh:HL P h f ds q k):
   HL P h' f ds q (λ d y=>∃h1,HX e h1 y/\k d h1):=by
 unfold HL at*;obtain ⟨h1,h2,h3⟩:=hh;have hp:∀id∈DL h (Da ds),(get h id).isSome=true:=λ id hi=>AB.1 h2 id hi;rw[WB hx he _ hp];refine ⟨h1,AB.2 λ id hi=>?_,?_⟩
 . obtain ⟨o,ho⟩:=Bx.1 (hp id hi);rw[hx.sm ho];rfl
 . rw[u5 hx _ _ _ hp];exact h3.mono λ h2 r ⟨hf,hk⟩=>⟨Zy hx hq h2 hf,_,Pq hx _ _ _,hk⟩
theorem Rs.Fg{α:Type}{S:Prop}{k:α->Prop}:∀{r:Rs α},r.all k->r.JD S k
 | .fail,h=>h.elim
 | .ret p a,h=>h
 | .split b x y,h=>⟨λ e=>Rs.Fg (h.1 e),λ e=>Rs.Fg (h.2 e)⟩
theorem ON{f:FuncId}{ds:List D}{q:Nat}{k k':D->Hp->Prop}(hk:∀d y,k d y->k' d y)(hh:HL P h f ds q k):HL P h f ds q k':=by
 unfold HL at*;exact ⟨hh.1,hh.2.1,hh.2.2.mono λ h2 r ⟨hf,h3⟩=>⟨hf,hk _ _ h3⟩⟩
theorem Atc{env:List (Nat×D)}{n:Nat}(hx:HX e h h'){o:Oper}(hq:∀id,get e id≠none->id<10000)(hd:get e (o.dst.getD 0)=none){K:St->Prop}(hh:Qr P false o K ⟨env,h,n⟩):
   Qr P false o (λ st=>∃h1,HX e h1 st.hp/\K {st with hp:=h1}) ⟨env,h',n⟩:=by
 have Ms:∀j,get e (10000*(j+1)+o.dst.getD 0)=none:=λ j=>by
   cases hg:get e (10000*(j+1)+o.dst.getD 0) with
   | none=>rfl
   | some x=>have:=hq _ (by rw[hg];simp);omega
 have key:∀(y h2:Hp) (d:D),K ((⟨env,h2,n⟩:St).put o.dst d)->K {(⟨env,y,n⟩:St).put o.dst d with hp:=h2}:=by
   intro y h2 d hk;generalize o.dst=dst at hk ⊢;cases dst with
   | none=>exact hk
   | some t=>
     simp only[St.put] at hk ⊢;split
     . rename_i ht;rw[if_pos ht] at hk;exact hk
     . rename_i ht;rw[if_neg ht] at hk;exact hk
 have Ass:∀(st:St) (t:Option Nat) (d:D),(st.put t d).hp=st.hp:=by
   intro st t d;cases t with
   | none=>rfl
   | some t=>simp only[St.put];split<;>rfl
 unfold Qr at*;split at hh
 . rename_i f args ho;rcases Rs.F5 hh with hh | hh
   case inr=>exact (AI hh.1).elim
   simp only[Lk] at hh ⊢;refine Rs.Fg (Rs.Ce (λ x HZ=>?_) (Anx hx hh));obtain ⟨h1,IH,hc⟩:=HZ;have:=Ao0 IH hq Ms hc;refine ON (λ d y hy=>?_) this;obtain ⟨h2,HZ,hk⟩:=hy;exact ⟨h2,by rw[Ass];exact HZ,key _ _ _ hk⟩
 . rcases Rs.F5 hh with hh | hh
   case inr=>exact (AI hh.1).elim
   refine Rs.Fg (Rs.Ce (λ x HZ=>?_) (Av9 hx hd hh));obtain ⟨h1,IH,hk⟩:=HZ;exact ⟨h1,by rw[Ass];exact IH,key _ _ _ hk⟩
end
end Go.Am
namespace Go.Am
open Go
def GF(h:Hp)(d:D):Prop:=∀id∈d.ids,get h id≠none
def Gx(h:Hp)(ds:List D):Prop:=∀id∈Da ds,get h id≠none
def IE(h:Hp):Prop:=∀id o,get h id=some o->∀i∈o.ids,get h i≠none
def LJ(h h':Hp):Prop:=∀id,get h id≠none->get h' id≠none
def EY(q:Option Nat)(h h':Hp):Prop:=∀id,get h' id≠none->get h id≠none∨some id=q∨10000<=id
section
variable {P:Program} {e h h':Hp} {q:Option Nat}
theorem HX.eq(hx:HX e h h'){id:Nat}(hg:get h id≠none):get h' id=get h id:=by
 cases ho:get h id with
 | none=>exact (hg ho).elim
 | some o=>exact hx.sm ho
theorem HX.nn'(hx:HX e h h'){id:Nat}(hg:get h' id=none):get h id=none:=by
 cases ho:get h id with
 | none=>rfl
 | some o=>rw[hx.sm ho] at hg;cases hg
theorem EY.refl(q:Option Nat)(h:Hp):EY q h h:=λ _ hi=> .inl hi
theorem EY.trans{h'':Hp}(h1:EY q h h')(h2:EY q h' h''):EY q h h'':=λ id hi=>by
 rcases h2 id hi with h3 | h3
 . exact h1 id h3
 . exact .inr h3
theorem LJ.refl(h:Hp):LJ h h:=λ _ hi=>hi
theorem LJ.trans{h'':Hp}(h1:LJ h h')(h2:LJ h' h''):LJ h h'':=λ id hi=>h2 id (h1 id hi)
theorem EY.Cw{id:Nat}(hg:get h id≠none)(o:AO):EY q h (Cw h id o):=by
 intro j hj;rw[CM] at hj;by_cases ej:j=id
 . subst ej;exact .inl hg
 . rw[if_neg ej] at hj;exact .inl hj
theorem LJ.Cw(h:Hp)(id:Nat)(o:AO):LJ h (Cw h id o):=by
 intro j hj;rw[CM];by_cases ej:j=id
 . rw[if_pos ej];simp
 . rw[if_neg ej];exact hj
theorem Wb{h:Hp}{id:Nat}(j:Nat):get (froze h id) j=match get h j with
   | some (.arr t sz es)=>if j=id then some (.LG sz es) else some (.arr t sz es)
   | o=>o:=by
 unfold froze;split
 . rename_i t sz es hg;rw[CM];by_cases ej:j=id
   . subst ej;rw[if_pos rfl,hg];simp
   . rw[if_neg ej];cases get h j with
     | none=>rfl
     | some o=>cases o<;>simp[ej]
 . rename_i hg;cases hj:get h j with
   | none=>rfl
   | some o=>cases o with
     | arr t sz es=>
       by_cases ej:j=id
       . subst ej;exact (hg _ _ _ hj).elim
       . simp[ej]
     | _=>rfl
theorem OA{h:Hp}{id j:Nat}:get (froze h id) j≠none↔get h j≠none:=by
 rw[Wb];cases get h j with
 | none=>simp
 | some o=>cases o<;>simp<;>split<;>simp
theorem IE.froze(hn:IE h)(id:Nat):IE (froze h id):=by
 intro j o hj i hi;rw[OA];rw[Wb] at hj;cases hg:get h j with
 | none=>rw[hg] at hj;cases hj
 | some o2=>
   rw[hg] at hj;cases o2 with
   | arr t sz es=>
     simp only at hj;split at hj<;>(cases hj;simp[AO.ids] at hi)
   | LG sz es=>cases hj;simp[AO.ids] at hi
   | iter l pos=>cases hj;simp[AO.ids] at hi
   | Df g cs=>cases hj;simp[AO.ids] at hi
   | Fi s=>cases hj;simp[AO.ids] at hi
   | mp l=>cases hj;simp[AO.ids] at hi
   | Dj t e sz k rows hole=>cases hj;simp[AO.ids] at hi
   | box cs ty=>cases hj;exact hn j _ hg i hi
def EO(h h':Hp):Prop:=∀id,get h' id≠none↔get h id≠none
theorem EO.refl(h:Hp):EO h h:=λ _=>Iff.rfl
theorem EO.trans{h'':Hp}(h1:EO h h')(h2:EO h' h''):EO h h'':=λ id=>(h2 id).trans (h1 id)
theorem EO.Ats(hk:EO h h'){d:D}:GF h' d↔GF h d:=⟨λ hp id hi=>(hk id).1 (hp id hi),λ hp id hi=>(hk id).2 (hp id hi)⟩
theorem EO.Ac2(hk:EO h h'){d:List D}:Gx h' d↔Gx h d:=⟨λ hp id hi=>(hk id).1 (hp id hi),λ hp id hi=>(hk id).2 (hp id hi)⟩
theorem IE.Cw(hn:IE h){id:Nat}(hg:get h id≠none){o:AO}(ho:o.ids=[]):IE (Cw h id o):=by
 intro j o2 hj i hi;rw[CM] at hj;by_cases ej:j=id
 . rw[if_pos ej] at hj;cases hj;rw[ho] at hi;cases hi
 . rw[if_neg ej] at hj;exact LJ.Cw h id o i (hn j o2 hj i hi)
theorem EO.Cw{id:Nat}(hg:get h id≠none)(o:AO):EO h (Cw h id o):=by
 intro j;rw[CM];by_cases ej:j=id
 . subst ej;rw[if_pos rfl];exact ⟨λ _=>hg,λ _=>by simp⟩
 . rw[if_neg ej]
theorem Ak4(hx:HX e h h'){t:TypeId}{d:D}(hd:GF h d):Mi P h' t d=Mi P h t d:=by
 unfold Mi;cases CC P t with
 | none=>rfl
 | some ti=>cases d with
   | ptr id off=>simp only[hx.eq (hd id (by simp[D.ids]))]
   | ea id i c N=>simp only[hx.eq (hd id (by simp[D.ids]))]
   | LL id i n=>simp only[hx.eq (hd id (by simp[D.ids]))]
   | _=>rfl
theorem Fu(hx:HX e h h')(hn:IE h){d:D}(hd:GF h d){k:D×Hp->Prop}(hh:(Sw h' d).all k):
   (Sw h d).all (λ y=>(∃E0,HX e y.2 E0/\k (y.1,E0))/\GF h y.1/\IE y.2/\EO h y.2):=by
 have pl:∀x:Pd,GF h (.p x):=λ x id hi=>by simp[D.ids] at hi
 unfold Sw at*;split at hh
 . rename_i id off len N;rw[hx.eq (hd id (by simp[D.ids]))] at hh;split at hh
   . rename_i h1;exact ⟨hh.1,⟨_,hx.froze h1,hh.2⟩,pl _,hn.froze id,λ j=>OA⟩
   . exact ⟨hh.1,⟨_,hx,hh.2⟩,pl _,hn,EO.refl _⟩
   . exact hh.elim
 . rename_i id n;have hid:=hd id (by simp[D.ids]);rw[hx.eq hid] at hh;split at hh
   . exact ⟨hh.1,⟨_,hx.Cw _ _,hh.2⟩,pl _,hn.Cw hid rfl,EO.Cw hid _⟩
   . exact hh.elim
 . exact ⟨hh.1,⟨_,hx,hh.2⟩,pl _,hn,EO.refl _⟩
 . exact ⟨hh.1,⟨_,hx,hh.2⟩,hd,hn,EO.refl _⟩
theorem Gx.cons{d:D}{r:List D}:Gx h (d::r)↔GF h d/\Gx h r:=by
 unfold Gx GF;simp only[Da,Av];exact ⟨λ hh=>⟨λ id hi=>hh id (.inl hi),λ id hi=>hh id (.inr hi)⟩,λ hh id hi=>hi.elim (hh.1 id) (hh.2 id)⟩
theorem GF.le{h2:Hp}(hk:LJ h h2){d:D}(hd:GF h d):GF h2 d:=λ id hi=>hk id (hd id hi)
theorem Gx.le{h2:Hp}(hk:LJ h h2){d:List D}(hd:Gx h d):Gx h2 d:=λ id hi=>hk id (hd id hi)
mutual
theorem Ao4:∀{d:D} {h h':Hp} (_:HX e h h') (_:IE h) (_:GF h d) {k:D×Hp->Prop} (_:(CZ h' d).all k),
    (CZ h d).all (λ y=>(∃E0,HX e y.2 E0/\k (y.1,E0))/\GF h y.1/\IE y.2/\EO h y.2)
  | .agg cs,h,h',hx,hn,hd,k,hh=>by
    simp only[CZ] at*;refine Rs.CF (Rs.Ce (λ y hy=>?_) (Nu hx hn (ds:=cs) hd (Rs.all_bind hh)));obtain ⟨⟨h1,IH,h2⟩,h3,h4⟩:=hy;exact ⟨h2.1,⟨h1,IH,h2.2⟩,h3,h4⟩
  | .Dg cs,h,h',hx,hn,hd,k,hh=>by
    simp only[CZ] at*;refine Rs.CF (Rs.Ce (λ y hy=>?_) (Nu hx hn (ds:=cs) hd (Rs.all_bind hh)));obtain ⟨⟨h1,IH,h2⟩,h3,h4⟩:=hy;exact ⟨h2.1,⟨h1,IH,h2.2⟩,h3,h4⟩
  | .p _,h,h',hx,hn,hd,k,hh=>by simp only[CZ] at*;exact Fu hx hn hd hh
  | .cl _,h,h',hx,hn,hd,k,hh=>by simp only[CZ] at*;exact Fu hx hn hd hh
  | .cz _,h,h',hx,hn,hd,k,hh=>by simp only[CZ] at*;exact Fu hx hn hd hh
  | .ref _ _ _ _,h,h',hx,hn,hd,k,hh=>by simp only[CZ] at*;exact Fu hx hn hd hh
  | .ptr _ _,h,h',hx,hn,hd,k,hh=>by simp only[CZ] at*;exact Fu hx hn hd hh
  | .pe _,h,h',hx,hn,hd,k,hh=>by simp only[CZ] at*;exact Fu hx hn hd hh
  | .ea _ _ _ _,h,h',hx,hn,hd,k,hh=>by simp only[CZ] at*;exact Fu hx hn hd hh
  | .fn _ _,h,h',hx,hn,hd,k,hh=>by simp only[CZ] at*;exact Fu hx hn hd hh
  | .np,h,h',hx,hn,hd,k,hh=>by simp only[CZ] at*;exact Fu hx hn hd hh
  | .mv _,h,h',hx,hn,hd,k,hh=>by simp only[CZ] at*;exact Fu hx hn hd hh
  | .Di _ _,h,h',hx,hn,hd,k,hh=>by simp only[CZ] at*;exact Fu hx hn hd hh
  | .LL _ _ _,h,h',hx,hn,hd,k,hh=>by simp only[CZ] at*;exact Fu hx hn hd hh
  | .nr _ _ _ _,h,h',hx,hn,hd,k,hh=>by simp only[CZ] at*;exact Fu hx hn hd hh
  | .Qs,h,h',hx,hn,hd,k,hh=>by simp only[CZ] at*;exact Fu hx hn hd hh
  | .bad,h,h',hx,hn,hd,k,hh=>by simp only[CZ] at*;exact Fu hx hn hd hh
theorem Nu:∀{ds:List D} {h h':Hp} (_:HX e h h') (_:IE h) (_:Gx h ds) {k:List D×Hp->Prop} (_:(FO h' ds).all k),
    (FO h ds).all (λ y=>(∃E0,HX e y.2 E0/\k (y.1,E0))/\Gx h y.1/\IE y.2/\EO h y.2)
  | [],h,h',hx,hn,hd,k,hh=>by simp only[FO] at*;exact ⟨hh.1,⟨_,hx,hh.2⟩,hd,hn,EO.refl _⟩
  | d::r,h,h',hx,hn,hd,k,hh=>by
    simp only[FO] at*;obtain ⟨V7,Jt⟩:=Gx.cons.1 hd;refine Rs.CF (Rs.Ce (λ y hy=>?_) (Ao4 hx hn V7 (Rs.all_bind hh)));obtain ⟨⟨h1,IH,h2⟩,hp1,hn1,Q5⟩:=hy;refine Rs.CF (Rs.Ce (λ z hz=>?_) (Nu IH hn1 (Q5.Ac2.2 Jt) (Rs.all_bind h2)));obtain ⟨⟨h3,hx3,h4⟩,La,hn2,JF⟩:=hz;exact ⟨h4.1,⟨h3,hx3,h4.2⟩,Gx.cons.2 ⟨hp1,Q5.Ac2.1 La⟩,hn2,Q5.trans JF⟩
end
theorem Apr(hx:HX e h h')(hn:IE h){d:D}(hd:GF h d){k:Pd×Hp->Prop}(hh:(UY h' d).all k):
   (UY h d).all (λ y=>(∃E0,HX e y.2 E0/\k (y.1,E0))/\IE y.2/\EO h y.2):=by
 unfold UY at*;split at hh
 . exact ⟨hh.1,⟨_,hx,hh.2⟩,hn,EO.refl _⟩
 . exact ⟨hh.1,⟨_,hx,hh.2⟩,hn,EO.refl _⟩
 . exact ⟨hh.1,⟨_,hx,hh.2⟩,hn,EO.refl _⟩
 . rename_i id off len N;rw[hx.eq (hd id (by simp[D.ids]))] at hh;split at hh
   . rename_i h1;exact ⟨hh.1,⟨_,hx.froze h1,hh.2⟩,hn.froze id,λ j=>OA⟩
   . exact ⟨hh.1,⟨_,hx,hh.2⟩,hn,EO.refl _⟩
   . exact hh.elim
 . rename_i id n;have hid:=hd id (by simp[D.ids]);rw[hx.eq hid] at hh;split at hh
   . exact ⟨hh.1,⟨_,hx.Cw _ _,hh.2⟩,hn.Cw hid rfl,EO.Cw hid _⟩
   . exact hh.elim
 . exact hh.elim
theorem Tg:∀{ds:List D} {h h':Hp} (_:HX e h h') (_:IE h) (_:Gx h ds) {k:List Pd×Hp->Prop} (_:(Ij h' ds).all k),
   (Ij h ds).all (λ y=>(∃E0,HX e y.2 E0/\k (y.1,E0))/\IE y.2/\EO h y.2)
 | [],h,h',hx,hn,hd,k,hh=>by simp only[Ij] at*;exact ⟨hh.1,⟨_,hx,hh.2⟩,hn,EO.refl _⟩
 | d::r,h,h',hx,hn,hd,k,hh=>by
   simp only[Ij] at*;obtain ⟨V7,Jt⟩:=Gx.cons.1 hd;refine Rs.CF (Rs.Ce (λ y hy=>?_) (Apr hx hn V7 (Rs.all_bind hh)));obtain ⟨⟨h1,IH,h2⟩,hn1,Q5⟩:=hy;refine Rs.CF (Rs.Ce (λ z hz=>?_) (Tg IH hn1 (Q5.Ac2.2 Jt) (Rs.all_bind h2)));obtain ⟨⟨h3,hx3,h4⟩,hn2,JF⟩:=hz;exact ⟨h4.1,⟨h3,hx3,h4.2⟩,hn2,Q5.trans JF⟩
theorem Abt(hx:HX e h h'){d:D}(hd:GF h d):SW h' d=SW h d:=by
 unfold SW;split
 . rfl
 . rfl
 . rfl
 . rename_i id off len N;rw[hx.eq (hd id (by simp[D.ids]))]
 . rfl
def Beh(e h:Hp)(q:Option Nat)(k:D×Hp->Prop)(y:D×Hp):Prop:=(∃E0,HX e y.2 E0/\k (y.1,E0))/\EY q h y.2
theorem Arp(hx:HX e h h'){q:Nat}{t t2:TypeId}{s x:D}(hs:GF h s)(hd:GF h x){k:D×Hp->Prop}(hh:(Uw P h' q t t2 s x).all k):(Uw P h q t t2 s x).all (Beh e h (some q) k):=by
 unfold Uw at*;split at hh
 case h_2=>exact hh.elim
 split at hh
 case h_2=>exact hh.elim
 rw[Abt hx hd] at hh;refine Rs.CF (Rs.Ce (λ ys hy=>?_) (Rs.all_bind hh));split at hy
 . obtain ⟨⟨a1,a2,a3,a4,a5,a6⟩,hk⟩:=hy;refine ⟨⟨a1,a2,a3,a4,hx.nn' a5,a6⟩,⟨_,hx.cons _ _,hk⟩,λ j hj=>?_⟩;rw[Cp] at hj;split at hj
   . rename_i ej;exact .inr (.inl (by rw[ej]))
   . exact .inl hj
 . obtain ⟨⟨a1,a2,a3,a4,a5,a6⟩,hk⟩:=hy;refine ⟨⟨a1,a2,a3,a4,hx.nn' a5,a6⟩,⟨_,hx.cons _ _,hk⟩,λ j hj=>?_⟩;rw[Cp] at hj;split at hj
   . rename_i ej;exact .inr (.inl (by rw[ej]))
   . exact .inl hj
 . rename_i id off len N;have hid:=hs id (by simp[D.ids]);rw[hx.eq hid] at hy;obtain ⟨h0,hy⟩:=N9 hy;refine Vt h0 ?_;split at hy
   . exact ⟨hy.1,⟨_,hx.Cw _ _,hy.2⟩,EY.Cw hid _⟩
   . exact hy.elim
 . rename_i id i len kk;have hid:=hs id (by simp[D.ids]);rw[hx.eq hid] at hy;split at hy
   . obtain ⟨⟨a1,a2,a3,a4,⟨b1,b2,b3,b4,b5,b6⟩,a5⟩,hk⟩:=hy;refine ⟨⟨a1,a2,a3,a4,⟨b1,b2,b3,b4,b5,hx.nn' b6⟩,a5⟩,⟨_,(hx.Cw _ _).cons _ _,hk⟩,λ j hj=>?_⟩;rw[Cp] at hj;split at hj
     . rename_i ej;exact .inr (.inl (by rw[ej]))
     . exact EY.Cw hid _ j hj
   . exact hy.elim
 . exact hy.elim
theorem Anq(hx:HX e h h'){q:Nat}{t:TypeId}{s x:D}(hs:GF h s)(hd:GF h x){k:D×Hp->Prop}(hh:(MJ P h' t s x).all k):(MJ P h t s x).all (Beh e h (some q) k):=by
 unfold MJ at*;split at hh
 case h_2=>exact hh.elim
 split at hh
 case h_2=>exact hh.elim
 rw[Abt hx hd] at hh;refine Rs.CF (Rs.Ce (λ ys hy=>?_) (Rs.all_bind hh));split at hy
 case h_2=>exact hy.elim
 rename_i id off len N;have hid:=hs id (by simp[D.ids]);rw[hx.eq hid] at hy;split at hy
 . exact ⟨hy.1,⟨_,hx.Cw _ _,hy.2⟩,EY.Cw hid _⟩
 . exact hy.elim
theorem RV(a b:List D):Da (a++b)=Da a++Da b:=by
 induction a with
 | nil=>rfl
 | cons d r ih=>simp[Da,ih]
theorem u7{d:D}{cs:List D}(hs:d.stored=some cs):Da cs=d.ids:=by
 unfold D.stored at hs;split at hs
 . cases hs;cases d<;>simp[D.cells,D.ids,Da]
 . cases hs
theorem Aef(hx:HX e h h'){t:TypeId}{m i v:D}(hm:GF h m){k:Hp->Prop}(hh:(J3 P h' t m i v).all k):
   (J3 P h t m i v).all (λ y=>(∃E0,HX e y E0/\k E0)/\EY none h y):=by
 unfold J3 at*;split at hh
 . rename_i id key x h0;have hid:=hm id (by simp[D.ids]);rw[hx.eq hid] at hh;split at hh
   . exact ⟨hh.1,⟨_,hx.Cw _ _,hh.2⟩,EY.Cw hid _⟩
   . exact hh.elim
 . exact hh.elim
theorem Xb(hx:HX e h h'){id i n:Nat}{v:D}(ha:get h id≠none)(hv:GF h v){k:Hp->Prop}(hh:(FE h' id i n v).all k):
   (FE h id i n v).all (λ y=>(∃E0,HX e y E0/\k E0)/\EY none h y):=by
 unfold FE at*;split at hh
 . rename_i q off len N;have hq:=hv q (by simp[D.ids]);rw[hx.eq hq,hx.eq ha] at hh;split at hh
   . refine ⟨hh.1,⟨_,(hx.Cw _ _).Cw _ _,hh.2⟩,(EY.Cw ha _).trans (EY.Cw (LJ.Cw _ _ _ _ hq) _)⟩
   . exact hh.elim
 . exact hh.elim
theorem Adl(hx:HX e h h')(hn:IE h){t:TypeId}{a v:D}(ha:GF h a)(hv:GF h v){k:Hp->Prop}(hh:(JY P h' t a v).all k):
   (JY P h t a v).all (λ y=>(∃E0,HX e y E0/\k E0)/\EY none h y):=by
 unfold JY at*;split at hh
 case h_2=>exact hh.elim
 split at hh
 case h_2=>exact hh.elim
 rename_i I5;split at hh
 . rename_i id off;have hid:=ha id (by simp[D.ids]);rw[hx.eq hid] at hh;split at hh
   . exact ⟨hh.1,⟨_,hx.Cw _ _,hh.2⟩,EY.Cw hid _⟩
   . exact hh.elim
 . rename_i id i c N;have hid:=ha id (by simp[D.ids]);refine Rs.CF (Rs.Ce (λ y hy=>?_) (Tg hx hn (λ j hj=>hv j (by rw[<-u7 I5];exact hj)) (Rs.all_bind hh)));obtain ⟨⟨h1,IH,hy⟩,hn1,Q5⟩:=hy;have Ay1:=(Q5 id).2 hid;rw[IH.eq Ay1] at hy;split at hy
   . exact ⟨hy.1,⟨_,IH.Cw _ _,hy.2⟩,λ j hj=>by
       rcases EY.Cw (q:=none) Ay1 _ j hj with h3 | h3 | h3
       . exact .inl ((Q5 j).1 h3)
       . cases h3
       . exact .inr (.inr h3)⟩
   . exact hy.elim
 . rename_i id i n;have hid:=ha id (by simp[D.ids]);exact Rs.Qa (Rs.EA hh).1 (Xb hx hid hv (Rs.EA hh).2)
 . exact hh.elim
end
end Go.Am
namespace Go.Am
open Go
def isQ(o:Op):Bool:=
 match o with
 | .call c=>match c.callee with
   | .value _=>true
   | .builtin .append | .builtin .copy=>true
   | _=>false
 | .store _ _ _=>true
 | .slice _ _ _ _ _=>true
 | .buildSlice _ _ _=>true
 | .load _ _=>true
 | .mapUpdate _ _ _ _=>true
 | _=>false
section
variable {P:Program} {e h h':Hp}
theorem H5:∀(l T:List Nat) (id:Nat),id∈Fw T l->id∈T∨id∈l
 | [],T,id,hi=> .inl hi
 | i::r,T,id,hi=>by
   simp only[Fw] at hi;split at hi
   . rcases H5 r T id hi with h1 | h1
     . exact .inl h1
     . exact .inr (by simp[h1])
   . rcases H5 r _ id hi with h1 | h1
     . rcases Av.1 h1 with h2 | h2
       . exact .inl h2
       . simp only[Aw] at h2;exact .inr (by simp[h2])
     . exact .inr (by simp[h1])
theorem Ot(hn:IE h):∀(l:List Nat) (id:Nat),id∈IG h l->get h id≠none
 | [],id,hi=>by simp[IG] at hi
 | i::r,id,hi=>by
   simp only[IG,Av] at hi;rcases hi with h1 | h1
   . cases ho:get h i with
     | none=>rw[ho] at h1;simp at h1
     | some o=>rw[ho] at h1;exact hn i o ho id h1
   . exact Ot hn r id h1
theorem j6(hn:IE h){ids:List Nat}(hp:∀id∈ids,get h id≠none):∀id∈DL h ids,get h id≠none:=by
 intro id hi;unfold DL at hi;simp only at hi;rcases H5 _ _ _ hi with h0 | h0
 . rcases H5 _ _ _ h0 with h1 | h1
   . rcases H5 _ _ _ h1 with h2 | h2
     . rcases H5 _ _ _ h2 with h3 | h3
       . simp at h3
       . exact hp id h3
     . exact Ot hn _ _ h2
   . exact Ot hn _ _ h1
 . have hg:∀j,id∈ghost h j->get h id≠none:=by
     intro j hj;unfold ghost at hj;split at hj
     . rename_i hgj;simp only[Aw] at hj;subst hj;rw[hgj];simp
     . simp at hj
   simp only[Rg,Av] at h0;rcases h0 with h0 | h0 | h0 | h0<;>exact hg _ h0
theorem Zx(hx:HX e h h'){q:Nat}:∀(l:Hp),fresh q h' l->fresh q h l
 | [],_=>trivial
 | (j,_)::r,hf=>⟨hf.1.imp id λ h1=>hx.nn' h1,Zx hx r hf.2⟩
theorem Anz(hx:HX e h h')(he:∀id,get e id≠none->id<10000)(hn:IE h){f:FuncId}{ds:List D}(hd:Gx h ds){q:Nat}{k:D->Hp->Prop}(hh:HL P h' f ds q k):
   HL P h f ds q (λ d y=>(∃E0,HX e y E0/\k d E0)/\EY none h y):=by
 have hp:=j6 hn hd;have hs:∀id∈DL h (Da ds),(get h id).isSome=true:=λ id hi=>by
   have:=hp id hi;cases hg:get h id with
   | none=>exact (this hg).elim
   | some o=>rfl
 unfold HL at*;rw[WB hx he _ hs] at hh;obtain ⟨h1,h2,h3⟩:=hh;refine ⟨h1,AB.2 hs,?_⟩;rw[u5 hx _ _ _ hs] at h3;refine h3.mono λ h2 r ⟨hf,hk⟩=>⟨Zx hx h2 hf,⟨_,Pq hx _ _ _,hk⟩,?_⟩;intro i hi;have key:∀(l:Hp),get (merge (DL h (Da ds)) q h l) i≠none->get h i≠none∨some i=none∨10000<=i:=by
   intro l
   induction l with
   | nil=>intro h4;exact .inl h4
   | cons x r ih=>
     obtain ⟨j,o⟩:=x;intro h4;simp only[merge] at h4;split at h4
     . rename_i id hid;rw[CM] at h4;by_cases ej:i=id
       . subst ej;unfold back at hid;split at hid
         . exact .inl (hp i (AU hid))
         . simp only[Al] at hid;exact .inr (.inr (by omega))
       . rw[if_neg ej] at h4;exact ih h4
     . exact ih h4
 exact key h2 hi
theorem Anw{env:List (Nat×D)}{n:Nat}(hx:HX e h h')(hn:IE h){f:Operand}{args:List Operand}(hf:GF h (ev ⟨env,h,n⟩ f))(ha:∀x∈args,GF h (ev ⟨env,h,n⟩ x))
   {k:FuncId×List D×Hp->Prop} (hh:(Hb ⟨env,h',n⟩ f args).all k):
   (Hb ⟨env,h,n⟩ f args).all (λ y=>(∃E0,HX e y.2.2 E0/\k (y.1,y.2.1,E0))/\Gx y.2.2 y.2.1/\IE y.2.2/\EO h y.2.2):=by
 have ef:ev ⟨env,h',n⟩=ev ⟨env,h,n⟩:=funext λ _=>rfl;unfold Hb at*;rw[ef] at hh;have IJ:Gx h (args.map (ev ⟨env,h,n⟩)):=by
   intro id hi;clear hh
   induction args with
   | nil=>simp[Da] at hi
   | cons x r ih=>
     simp only[AD,Da,Av] at hi;rcases hi with h1 | h1
     . exact ha x (by simp) id h1
     . exact ih (λ y hy=>ha y (by simp[hy])) h1
 split at hh
 . rename_i g cap he;rw[he] at hf;have DK:Gx h (args.map (ev ⟨env,h,n⟩)++cap):=by
     intro id hi;rw[RV,Av] at hi;rcases hi with h1 | h1
     . exact IJ id h1
     . exact hf id h1
   refine Rs.CF (Rs.Ce (λ y hy=>?_) (Nu hx hn DK (Rs.all_bind hh)));obtain ⟨⟨h1,IH,h2⟩,hp1,hn1,Q5⟩:=hy;exact ⟨h2.1,⟨h1,IH,h2.2⟩,Q5.Ac2.2 hp1,hn1,Q5⟩
 . exact hh.elim
theorem Dn(st:St)(t:Option Nat)(d:D):(st.put t d).hp=st.hp:=by
 cases t with
 | none=>rfl
 | some t=>simp only[St.put];split<;>rfl
theorem Tf{K:St->Prop}{env:List (Nat×D)}{n:Nat}{dst:Option Nat}(y h2:Hp)(d:D)(hk:K ((⟨env,h2,n⟩:St).put dst d)):K {(⟨env,y,n⟩:St).put dst d with hp:=h2}:=by
 cases dst with
 | none=>exact hk
 | some t=>
   simp only[St.put] at hk ⊢;split
   . rename_i ht;rw[if_pos ht] at hk;exact hk
   . rename_i ht;rw[if_neg ht] at hk;exact hk
theorem Ahn(d:D):Da d.cells=d.ids:=by cases d<;>simp[D.cells,D.ids,Da]
theorem TG{l:List D}{d:D}(h:d∈l):∀i∈d.ids,i∈Da l:=by
 induction l with
 | nil=>cases h
 | cons x r ih=>
   intro i hi;simp only[Da,Av];rcases AF.1 h with rfl | h
   . exact .inl hi
   . exact .inr (ih h i hi)
theorem QZ{l:List D}{i:Nat}:i∈Da l->∃d∈l,i∈d.ids:=by
 induction l with
 | nil=>intro h;simp[Da] at h
 | cons x r ih=>
   intro h;simp only[Da,Av] at h;rcases h with h | h
   . exact ⟨x,by simp,h⟩
   . obtain ⟨d,hd,hi⟩:=ih h;exact ⟨d,by simp[hd],hi⟩
theorem T4{h:Hp}{place:Nat->Option (Nat×Nat)}:∀(ps:List (Nat×D)) (cells cs:List D),(∀x∈ps,GF h x.2)->Gx h cells->GM place cells ps=some cs->Gx h cs
 | [],cells,cs,_,hc,hf=>by simp only[GM,Al] at hf;subst hf;exact hc
 | (i,d)::r,cells,cs,hp,hc,hf=>by
   simp only[GM] at hf;split at hf
   . cases hf
   . split at hf
     . refine T4 r _ cs (λ x hx=>hp x (by simp[hx])) ?_ hf;intro id hi;obtain ⟨d2,Jt,EP⟩:=QZ hi;rcases Av.1 Jt with h1 | h1
       . rcases Av.1 h1 with h2 | h2
         . exact hc id (TG (BN h2) id EP)
         . have:=TG h2 id EP;rw[Ahn] at this;exact hp (i,d) (by simp) id this
       . exact hc id (TG (List.mem_of_mem_drop h1) id EP)
     . cases hf
theorem Atb{env:List (Nat×D)}{n:Nat}(hx:HX e h h')(he:∀id,get e id≠none->id<10000)(hn:IE h){o:Oper}(hq:isQ o.op=true)(ho:∀x∈o.op.operands.toList,GF h (ev ⟨env,h,n⟩ x)){K:St->Prop}(hh:Qr P false o K ⟨env,h',n⟩):
   Qr P false o (λ st=>(∃E0,HX e st.hp E0/\K {st with hp:=E0})/\EY (some (o.dst.getD 0)) h st.hp) ⟨env,h,n⟩:=by
 have ef:ev ⟨env,h',n⟩=ev ⟨env,h,n⟩:=funext λ _=>rfl;unfold Qr at*;split at hh
 . rename_i f args hc;rcases Rs.F5 hh with hh | hh
   case inr=>exact (AI hh.1).elim
   have KS:(∀x∈f::args,x∈o.op.operands.toList):=by
     unfold De at hc;split at hc
     case h_2=>cases hc
     rename_i cl Qk;split at hc
     case h_2=>cases hc
     rename_i f' hf';simp only[Al,Prod.mk.injEq] at hc;obtain ⟨rfl,rfl⟩:=hc;intro x hxm;rw[Qk];simp[Op.operands,Call.operands,hf'] at hxm ⊢;exact hxm
   simp only[Lk] at hh ⊢;refine Rs.Fg (Rs.Ce (λ x HZ=>?_) (Anw hx hn (ho f (KS f (by simp))) (λ x hx3=>ho x (KS x (by simp[hx3]))) hh));obtain ⟨⟨h1,IH,hc⟩,hp1,hn1,Q5⟩:=HZ;refine ON (λ d y hy=>?_) (Anz IH he hn1 hp1 hc);obtain ⟨⟨h2,HZ,hk⟩,Ms⟩:=hy;refine ⟨⟨h2,by rw[Dn];exact HZ,Tf _ _ _ hk⟩,λ i hi=>?_⟩;rw[Dn] at hi;rcases Ms i hi with h3 | h3 | h3
   . exact .inl ((Q5 i).1 h3)
   . cases h3
   . exact .inr (.inr h3)
 . rcases Rs.F5 hh with hh | hh
   case inr=>exact (AI hh.1).elim
   have fin:∀{r:Rs (D×Hp)},r.all (Beh e h (some (o.dst.getD 0)) λ x=>K ((⟨env,x.2,n⟩:St).put o.dst x.1))->
       r.JD (false=true/\N4 P o (λ st=>(∃E0,HX e st.hp E0/\K {st with hp:=E0})/\EY (some (o.dst.getD 0)) h st.hp) ⟨env,h,n⟩) (λ x=>(λ st:St=>(∃E0,HX e st.hp E0/\K {st with hp:=E0})/\EY (some (o.dst.getD 0)) h st.hp) ((⟨env,x.2,n⟩:St).put o.dst x.1)):=λ hr=>
     Rs.Fg (Rs.Ce (λ x HZ=>by
       obtain ⟨⟨h1,IH,hk⟩,Ms⟩:=HZ;exact ⟨⟨h1,by rw[Dn];exact IH,Tf _ _ _ hk⟩,by rw[Dn];exact Ms⟩) hr)
   refine fin ?_;cases KS:o.op with
   | call cl=>
     cases Qk:cl.callee with
     | builtin b=>
       cases b<;>rw[KS] at hq<;>simp only[isQ,Qk,AJ] at hq
       . simp only[Ka,KS,Qk,ef] at hh ⊢;have IJ:∀x∈cl.args.toList,GF h (ev ⟨env,h,n⟩ x):=λ x hx3=>ho x (by rw[KS];simp[Op.operands,Call.operands,Qk];simpa using hx3);generalize hl:cl.args.toList.map (ev ⟨env,h,n⟩)=l at hh ⊢;rcases l with _ | ⟨s,_ | ⟨x,_ | ⟨z,r⟩⟩⟩
         . exact hh.elim
         . cases s<;>first | exact hh.elim | (rename_i z;cases z<;>exact hh.elim)
         . obtain ⟨sq,xq,HE,rfl,rfl⟩:=Im hl;have hb3:∀hz:Hp,Fe P ⟨env,hz,n⟩ (o.dst.getD 0) .append cl.argTypes [ev ⟨env,h,n⟩ sq,ev ⟨env,h,n⟩ xq]=match cl.argTypes[0]?,cl.argTypes[1]? with
             | some t,some t2=>Uw P hz (o.dst.getD 0) t t2 (ev ⟨env,h,n⟩ sq) (ev ⟨env,h,n⟩ xq)
             | _,_=> .fail:=λ _=>rfl
           rw[hb3] at hh ⊢;split at hh
           . rename_i t t2 h1 h2;exact Arp hx (IJ sq (by rw[HE];simp)) (IJ xq (by rw[HE];simp)) hh
           . exact hh.elim
         . first | exact hh.elim | (cases s<;>first | exact hh.elim | (rename_i z1;cases z1<;>exact hh.elim))
       . simp only[Ka,KS,Qk,ef] at hh ⊢;have IJ:∀x∈cl.args.toList,GF h (ev ⟨env,h,n⟩ x):=λ x hx3=>ho x (by rw[KS];simp[Op.operands,Call.operands,Qk];simpa using hx3);generalize hl:cl.args.toList.map (ev ⟨env,h,n⟩)=l at hh ⊢;rcases l with _ | ⟨s,_ | ⟨x,_ | ⟨z,r⟩⟩⟩
         . exact hh.elim
         . cases s<;>first | exact hh.elim | (rename_i z;cases z<;>exact hh.elim)
         . obtain ⟨sq,xq,HE,rfl,rfl⟩:=Im hl;have hb3:∀hz:Hp,Fe P ⟨env,hz,n⟩ (o.dst.getD 0) .copy cl.argTypes [ev ⟨env,h,n⟩ sq,ev ⟨env,h,n⟩ xq]=match cl.argTypes[0]?,cl.argTypes[1]? with
             | some t,some _=>MJ P hz t (ev ⟨env,h,n⟩ sq) (ev ⟨env,h,n⟩ xq)
             | _,_=> .fail:=λ _=>rfl
           rw[hb3] at hh ⊢;split at hh
           . rename_i t t2 h1 h2;exact Anq hx (IJ sq (by rw[HE];simp)) (IJ xq (by rw[HE];simp)) hh
           . exact hh.elim
         . first | exact hh.elim | (cases s<;>first | exact hh.elim | (rename_i z1;cases z1<;>exact hh.elim))
     | _=>rw[KS] at hq;rename_i hc _;simp only[isQ,Qk,AJ] at hq<;>simp_all [De]
   | store t a v=>
     simp only[Ka,KS,K6,ef] at hh ⊢;have h1:=Adl hx hn (ho a (by rw[KS];simp[Op.operands])) (ho v (by rw[KS];simp[Op.operands])) (Rs.all_bind hh);refine Rs.CF (Rs.Ce (λ y hy=>?_) h1);obtain ⟨⟨h2,HZ,hk⟩,Ms⟩:=hy;refine ⟨hk.1,⟨h2,HZ,hk.2⟩,λ i hi=>?_⟩;rcases Ms i hi with h3 | h3 | h3
     . exact .inl h3
     . cases h3
     . exact .inr (.inr h3)
   | slice t x lo hi mx=>
     have hp:=ho x (by rw[KS];simp[Op.operands]);have hsl:HO P ⟨env,h',n⟩ t (ev ⟨env,h,n⟩ x) lo hi mx=HO P ⟨env,h,n⟩ t (ev ⟨env,h,n⟩ x) lo hi mx:=by
       have hb:∀o d,Eh ⟨env,h',n⟩ o d=Eh ⟨env,h,n⟩ o d:=λ o d=>by cases o<;>rfl
       generalize ev ⟨env,h,n⟩ x=d at hp;unfold HO;simp only[hb];rcases CC P t with _ | ⟨s1,b1,k1,z1⟩
       . rfl
       cases k1 with
       | string=>cases d with
         | p y=>cases y<;>rfl
         | _=>rfl
       | slice e=>
         simp only;cases CC P e with
         | none=>rfl
         | some ti=>cases d with
           | p y=>cases y<;>rfl
           | ref id off len N=>
             have:sg h' id=sg h id:=by simp only[sg,hx.eq (hp id (by simp[D.ids]))]
             simp only[this]
           | _=>rfl
       | _=>rfl
     simp only[Ka,KS,JW,ef] at hh ⊢;rw[hsl] at hh;have h1:=Rs.all_bind hh;refine Rs.CF (Rs.Ce (λ y hy=>?_) h1);exact ⟨hy.1,⟨h',hx,hy.2⟩,EY.refl _ _⟩
   | buildSlice t n2 ps=>
     have hps:∀x∈ps.toList.map (λ q=>(q.1,ev ⟨env,h,n⟩ q.2)),GF h x.2:=λ x hx3=>by
       obtain ⟨q,hq3,rfl⟩:=AP.1 hx3;exact ho q.2 (by rw[KS];simp[Op.operands];exact ⟨q.1,by simpa using hq3⟩)
     simp only[Ka,KS,K6,ef] at hh ⊢;split at hh
     . split at hh
       . split at hh
         . rename_i cs hcs;have hpc:Gx h cs:=T4 _ _ _ hps (λ id hi=>by
             obtain ⟨d2,Jt,EP⟩:=QZ hi;rw[List.mem_replicate] at Jt;rw[Jt.2] at EP;simp[D.ids] at EP) hcs
           split at hh
           . exact hh.elim
           rename_i hnr;rw[if_neg hnr];refine Rs.CF (Rs.Ce (λ y hy=>?_) (Tg hx hn hpc (Rs.all_bind hh)));obtain ⟨⟨h2,HZ,hk⟩,hn2,JF⟩:=hy;refine ⟨⟨hk.1.1,hk.1.2.1,HZ.nn' hk.1.2.2⟩,⟨_,HZ.cons _ _,hk.2⟩,λ i hi=>?_⟩;rw[Cp] at hi;split at hi
           . rename_i ej;exact .inr (.inl (by rw[ej]))
           . exact .inl ((JF i).1 hi)
         . exact hh.elim
       . exact hh.elim
     . exact hh.elim
   | mapUpdate t m i x=>
     simp only[Ka,KS,K6,ef] at hh ⊢;have h1:=Aef hx (ho m (by rw[KS];simp[Op.operands])) (Rs.all_bind hh);refine Rs.CF (Rs.Ce (λ y hy=>?_) h1);obtain ⟨⟨h2,HZ,hk⟩,Ms⟩:=hy;refine ⟨hk.1,⟨h2,HZ,hk.2⟩,λ i hi=>?_⟩;rcases Ms i hi with h3 | h3 | h3
     . exact .inl h3
     . cases h3
     . exact .inr (.inr h3)
   | load t a=>
     have hp:=ho a (by rw[KS];simp[Op.operands]);simp only[Ka,KS,JW,ef] at hh ⊢;rw[Ak4 hx hp] at hh;have h1:=Rs.all_bind hh;refine Rs.CF (Rs.Ce (λ y hy=>?_) h1);exact ⟨hy.1,⟨h',hx,hy.2⟩,EY.refl _ _⟩
   | _=>rw[KS] at hq;simp[isQ] at hq
end
end Go.Am
namespace Go.Am
open Go
mutual
def Sy (h:Hp):D->D->Prop
  | .p x,d=>d= .p x
  | .cl es,d=>d= .p (.sl es)
  | .ref id off len N,d=>match get h id with
    | some (.arr _ _ es)=>N=es.length/\d= .p (.sl ((es.drop off).take len))
    | some (.LG _ es)=>N=es.length/\d= .p (.sl ((es.drop off).take len))
    | _=>False
  | .Di id n,d=>match get h id with
    | some (.Dj _ _ _ _ rows none)=>n=rows.length/\d= .p (.sl (rows.map λ r=>[.sl r]))
    | _=>False
  | .nr id i len k,d=>match get h id with
    | some (.Dj _ _ _ k2 rows none)=>(k=k2/\i<rows.length/\len=(rows.getD i []).length)/\d= .p (.sl (rows.getD i []))
    | _=>False
  | .agg cs,.agg cs'=>KR h cs cs'
  | .fn f cap,.fn f' Anv=>f'=f/\KR h cap Anv
  | _,_=>False
def KR (h:Hp):List D->List D->Prop
  | [],[]=>True
  | d::r,d'::r'=>Sy h d d'/\KR h r r'
  | _,_=>False
end
def D.Wi:D->Bool
 | .p x=>x.flat
 | _=>false
def D.flat:D->Bool
 | .p x=>x.flat
 | .Dg cs=>cs.all D.Wi
 | .agg cs=>cs.all D.Wi
 | _=>false
mutual
def D.HG:D->D
  | .p x=>if x.flat then .p x else .Qs
  | .agg cs=> .agg (Iv cs)
  | .Dg cs=> .Dg (Iv cs)
  | _=> .bad
def Iv:List D->List D
  | []=>[]
  | d::r=>d.HG::Iv r
end
theorem Ob:∀cs:List D,(Iv cs).length=cs.length
 | []=>rfl
 | _::r=>by simp[Iv,Ob r]
theorem Oc:∀(cs:List D) (i:Nat),(Iv cs)[i]?=(cs[i]?).map D.HG
 | [],i=>by simp[Iv]
 | d::r,0=>by simp[Iv]
 | d::r,i+1=>by simp[Iv,Oc r i]
theorem RH:∀{d:D},d.Wi=true->d.HG=d
 | .p x,h=>by simp only[D.Wi] at h;simp[D.HG,h]
 | .agg _,h | .Dg _,h | .cl _,h | .cz _,h | .ref _ _ _ _,h | .ptr _ _,h | .pe _,h | .ea _ _ _ _,h | .fn _ _,h | .np,h | .mv _,h | .Di _ _,h | .LL _ _ _,h | .nr _ _ _ _,h | .Qs,h | .bad,h=>by simp[D.Wi] at h
theorem L3:∀{cs:List D},cs.all D.Wi=true->Iv cs=cs
 | [],_=>rfl
 | d::r,h=>by
   simp only[List.all_cons,Ao] at h;simp[Iv,RH h.1,L3 h.2]
theorem z8{d:D}(h:d.flat=true):d.HG=d:=by
 cases d with
 | p x=>exact RH h
 | agg cs=>simp only[D.flat] at h;simp[D.HG,L3 h]
 | Dg cs=>simp only[D.flat] at h;simp[D.HG,L3 h]
 | _=>simp[D.flat] at h
section
variable {F F':Nat->Prop} {w w':World} {M M':Nat->Mb} {s s':Nat->Option Sg} {h h' e:Hp}
theorem DR.HG{d:D}{v:Value}(hr:DR F w M s d v):DR F' w' M' s' d.HG v:=by
 induction hr with
 | p hp=>
   simp only[D.HG];split
   . rename_i hf;cases hp with
     | int k n=>exact .p (.int k n)
     | bool b=>exact .p (.bool b)
     | str l=>exact .p (.str l)
     | Vz a cap=>simp[Pd.flat] at hf
     | sl es b off cap sz row t fr _ _ _ _ _ _=>simp[Pd.flat] at hf
   . exact .Qs _ hp.JN
 | agg cs vs hl hc ih=>
   simp only[D.HG];refine .agg _ vs (by rw[Ob];exact hl) λ i c hi=>?_;rw[Oc] at hi;cases hg:cs[i]? with
   | none=>rw[hg] at hi;cases hi
   | some x=>rw[hg] at hi;cases hi;exact ih i x hg
 | Dg cs vs hl hc ih=>
   simp only[D.HG];refine .Dg _ vs (by rw[Ob];exact hl) λ i c hi=>?_;rw[Oc] at hi;cases hg:cs[i]? with
   | none=>rw[hg] at hi;cases hi
   | some x=>rw[hg] at hi;cases hi;exact ih i x hg
 | _=>simp only[D.HG];exact .bad _
def Ad1(F:Nat->Prop)(M:Nat->Mb)(h:Hp):Nat->Prop:=λ b=>F b∨EF M h b
mutual
theorem Aia (hr:HR F w M h):∀(d d':D) {v:Value},DR F w M (sg h) d v->Sy h d d'->DR (Ad1 F M h) w M (sg []) d' v
  | .p x,d',v,hd,hb=>by
    simp only[Sy] at hb;subst hb;cases hd with | p hp=>exact .p (hp.keep (λ _ _=>rfl) λ b hb=> .inl hb)
  | .cl es,d',v,hd,hb=>by
    simp only[Sy] at hb;subst hb;cases hd with | cl _ ad hp _=>exact .p (hp.keep (λ _ _=>rfl) λ b hb=> .inl hb)
  | .ref id off len N,d',v,hd,hb=>by
    simp only[Sy] at hb;cases hd with | ref _ _ _ _ sz n _ hs hN hv hx=>
      split at hb
      . rename_i t OV es ho;obtain ⟨Sq,rfl⟩:=hb;have:OV=sz/\es.length=n:=by simpa [sg,ho,AO.sg] using hs
        obtain ⟨rfl,rfl⟩:=this;exact .p (JJ (st:=⟨[],h,0⟩) hr (.inl ⟨t,ho⟩) rfl (hx Sq) (λ b hb=> .inl hb) λ hc=> .inr ⟨id,_,ho,hc,rfl⟩)
      . rename_i OV es ho;obtain ⟨Sq,rfl⟩:=hb;have:OV=sz/\es.length=n:=by simpa [sg,ho,AO.sg] using hs
        obtain ⟨rfl,rfl⟩:=this;have hob:=hr.obj id _ ho;exact .p (JJ (st:=⟨[],h,0⟩) hr (.inr ho) rfl (hx Sq) (λ b hb=> .inl hb) λ hc=> .inl (hob.2.2.2 hc).1)
      . exact hb.elim
  | .Di id n,d',v,hd,hb=>by
    simp only[Sy] at hb;cases hd with | Di _ _ sz m k _ hs hN hv hx=>
      split at hb
      . rename_i t e2 OV k2 rows ho;obtain ⟨Sq,rfl⟩:=hb;have:OV=sz/\rows.length=m/\k2=k:=by simpa [sg,ho,AO.sg] using hs
        obtain ⟨rfl,rfl,rfl⟩:=this;refine .p ((O3 (st:=⟨[],h,0⟩) hr ho (by have:=hx Sq;rwa[Sq] at this)).keep (λ _ _=>rfl) λ b hb=>?_);rcases hb with hb | hb
        . exact .inl hb
        . exact .inr ⟨id,_,ho,hb⟩
      . exact hb.elim
  | .nr id i len q,d',v,hd,hb=>by
    simp only[Sy] at hb;cases hd with | nr _ _ _ _ sz m k _ hs hN hv hx=>
      split at hb
      . rename_i t e2 OV k2 rows ho;obtain ⟨⟨Sq,Yk,hb3⟩,rfl⟩:=hb;have:OV=sz/\rows.length=m/\k2=k:=by simpa [sg,ho,AO.sg] using hs
        obtain ⟨rfl,rfl,rfl⟩:=this;obtain ⟨bc,g1,g2,a,g3,g4⟩:=hx Sq;have hn:H6 F w (M id) t e2 OV rows none:=hr.obj id _ ho;have hg:rows[i]?=some (rows.getD i []):=by simp[List.getD,Yk]
        subst g3;rw[hb3];exact .p ((hn.rows i _ bc hg g1 (by simp)).pure (λ b hb=> .inl hb) (λ hc=> .inr ⟨id,_,ho,.inr ⟨i,bc,g1,hc,rfl⟩⟩) g4)
      . exact hb.elim
  | .agg cs,.agg cs',v,hd,hb=>by
    simp only[Sy] at hb;cases hd with | agg _ vs hl hc=>
      have h1:=Lr hr cs cs' (vs:=vs.toList) (by simpa using hl) (λ i e he=>by have:=hc i e he;simpa [List.getD,Array.getD_eq_getD_getElem?] using this) hb;exact .agg _ vs (by have:=h1.1;simpa using this) (λ i e he=>by have:=h1.2 i e he;simpa [List.getD,Array.getD_eq_getD_getElem?] using this)
  | .fn f cap,.fn f' Anv,v,hd,hb=>by
    simp only[Sy] at hb;obtain ⟨rfl,hb⟩:=hb;cases hd with | fn _ _ vs hl hc=>
      have h1:=Lr hr cap Anv (vs:=vs.toList) (by simpa using hl) (λ i e he=>by have:=hc i e he;simpa [List.getD,Array.getD_eq_getD_getElem?] using this) hb;exact .fn _ _ vs (by have:=h1.1;simpa using this) (λ i e he=>by have:=h1.2 i e he;simpa [List.getD,Array.getD_eq_getD_getElem?] using this)
theorem Lr (hr:HR F w M h):∀(ds ds':List D) {vs:List Value},vs.length=ds.length->(∀(i:Nat) c,ds[i]?=some c->DR F w M (sg h) c (vs.getD i undef))->KR h ds ds'->IW (Ad1 F M h) w M (sg []) ds' vs
  | [],[],vs,hl,_,_=>⟨hl,λ i c hi=>by simp at hi⟩
  | d::r,d'::r',vs,hl,hc,hb=>by
    simp only[KR] at hb;rcases vs with _ | ⟨x,vs⟩
    . simp at hl
    have h0:=Aia hr d d' (v:=x) (by simpa using hc 0 d rfl) hb.1;have h1:=Lr hr r r' (vs:=vs) (by simpa using hl) (λ i c hi=>by simpa using hc (i+1) c (by simpa using hi)) hb.2;refine ⟨by simp[h1.1],λ i c hi=>?_⟩;rcases i with _ | i
    . simp at hi;subst hi;simpa using h0
    . simpa using h1.2 i c (by simpa using hi)
end
mutual
theorem Aib:∀(d d':D),(∀id∈d.ids,get h' id=get h id)->Sy h d d'->Sy h' d d'
  | .p x,d',_,hb=>by simp only[Sy] at hb ⊢;exact hb
  | .cl es,d',_,hb=>by simp only[Sy] at hb ⊢;exact hb
  | .ref id off len N,d',hg,hb=>by simp only[Sy] at hb ⊢;rw[hg id (by simp[D.ids])];exact hb
  | .Di id n,d',hg,hb=>by simp only[Sy] at hb ⊢;rw[hg id (by simp[D.ids])];exact hb
  | .nr id i len q,d',hg,hb=>by simp only[Sy] at hb ⊢;rw[hg id (by simp[D.ids])];exact hb
  | .agg cs,.agg cs',hg,hb=>by simp only[Sy] at hb ⊢;exact JE cs cs' (λ id hi=>hg id (by simpa [D.ids] using hi)) hb
  | .fn f cap,.fn f' Anv,hg,hb=>by simp only[Sy] at hb ⊢;exact ⟨hb.1,JE cap Anv (λ id hi=>hg id (by simpa [D.ids] using hi)) hb.2⟩
theorem JE:∀(ds ds':List D),(∀id∈Da ds,get h' id=get h id)->KR h ds ds'->KR h' ds ds'
  | [],[],_,_=>by simp only[KR]
  | d::r,d'::r',hg,hb=>by
    simp only[KR] at hb ⊢;exact ⟨Aib d d' (λ id hi=>hg id (by simp[Da,hi])) hb.1,JE r r' (λ id hi=>hg id (by simp[Da,hi])) hb.2⟩
end
end
def Uz(P:Program)(o:Oper)(K:St->Prop)(st:St):Prop:=
 ∃(f:Operand) (args:List Operand) (g:FuncId) (cap ds:List D),De o.op=some (f,args)/\ev st f= .fn g cap/\KR st.hp (args.map (ev st)++cap) ds/\
   BZ P g ds [] λ h r=>h=[]/\K (st.put o.dst r.HG)
section
variable {P:Program} {c:Ctx} {st st':St} {a:Act} {w:World} {F:Nat->Prop} {M:Nat->Mb} {o:Oper} {K K':St->Prop}
theorem Rel.Aac(hr:Rel c st a w F M){v:Value}{w':World}{F':Nat->Prop}{M':Nat->Mb}{d:D}(hd:DR F' w' M' (sg []) d v)(hk:Aom ⟨w,Ad1 F M st.hp,EF M [],M,sg []⟩ w' F' M' []):
   Rel c st a w' F M/\DR F w' M (sg st.hp) d.HG v:=by
 have LV:∀b,¬EF M [] b:=by rintro b ⟨id,o,ho,_⟩;simp[get] at ho
 have hold:∀b,b<w.heap.size->w'.heap[b]?=w.heap[b]?:=λ b hb=>hk.LR b hb (LV b);have Em:w.heap.size<=w'.heap.size:=hk.size;have hF:∀b,F b->w'.heap[b]?=w.heap[b]?:=λ b hb=>hold b (hr.keep.Fl b hb);have hO:∀b,EF M st.hp b->w'.heap[b]?=w.heap[b]?:=λ b hb=>hold b (hr.heap.lt hb);refine ⟨⟨λ t d ht=>(hr.env t d ht).keep hF (λ _ h=>h) (CN.refl _ _),hr.size,hr.defers,hr.heap.keep hF hO,?_⟩,hd.HG⟩;have Hu:=hr.keep;exact ⟨hk.os.trans Hu.os,hk.tape.trans Hu.tape,hk.output.trans Hu.output,Bw Hu.size Em,λ b hb hO=>(hold b (Nat.lt_of_lt_of_le hb Hu.size)).trans (Hu.LR b hb hO),Hu.F0,Hu.Fn,
   λ b hb=>Nat.lt_of_lt_of_le (Hu.Fl b hb) Em,Hu.own,Hu.VB,Hu.s0b⟩
theorem OR(hr:Rel c st a w F M)(hb:Uz P o K st)(Q:Exit->Act->World->Prop):o.wp P a w (Good c K) Q:=by
 obtain ⟨f,args,g,cap,ds,ho,hg,Al2,Mv⟩:=hb;unfold De at ho;split at ho
 case h_2=>cases ho
 rename_i cl KS;split at ho
 case h_2=>cases ho
 rename_i f' hf;simp only[Al,Prod.mk.injEq] at ho;obtain ⟨rfl,rfl⟩:=ho;have hfv:=Ci hr f';rw[hg] at hfv;generalize hvf:a.eval f'=vf at hfv;cases hfv with
 | fn _ _ Up hl hc=>
   have IJ:=(Ri hr cl.args.toList).append (cs':=cap) (vs':=Up.toList) ⟨by simpa using hl,λ i e he=>by have:=hc i e he;simpa [List.getD,Array.getD_eq_getD_getElem?] using this⟩;have Yj:=Lr hr.heap _ _ IJ.1 IJ.2 Al2;have Zo:=Mv (cl.args.map a.eval++Up) w (Ad1 F M st.hp) M ⟨λ id o ho=>by simp[get] at ho,λ id o Ou o' b ho=>by simp[get] at ho⟩
     (λ b hb=>hb.elim (hr.keep.Fl b) hr.heap.lt) (λ id hid=>by simp[sg,get] at hid) (by simpa using Yj)
   rcases Zo with ⟨Hw,Lg⟩ | ⟨v,w',Ip,Sk⟩
   . have Dq:(execOp a.eval o).run P w= .ok (.enter g (cl.args.map a.eval++Up)) w:=by
       simp only[execOp,KS,hf,resolve,hvf,Deferred.ofValue,Sem.run_bind,Sem.run_pure,Result.andThen_ok,invoke,Array.empty_append];exact Hw
     unfold Oper.wp;rw[Dq];refine Lg.mono ?_;rintro e w' ⟨v,h',r,F2,M2,rfl,⟨rfl,hk⟩,_,hd,HJ⟩;obtain ⟨Ht,Jt⟩:=hr.Aac hd HJ;exact ⟨_,F,M,hk,Ht.put Jt o.dst⟩
   . have Dq:(execOp a.eval o).run P w= .ok (.value v) w':=by
       simp only[execOp,KS,hf,resolve,hvf,Deferred.ofValue,Sem.run_bind,Sem.run_pure,Result.andThen_ok,invoke,Array.empty_append];exact Ip
     obtain ⟨v2,h',r,F2,M2,RX,⟨rfl,hk⟩,_,hd,HJ⟩:=Sk;cases RX;obtain ⟨Ht,Jt⟩:=hr.Aac hd HJ;unfold Oper.wp;rw[Dq];exact ⟨_,F,M,hk,Ht.put Jt o.dst⟩
theorem TB{f:Operand}{args:List Operand}(hc:De o.op=some (f,args)):∀x∈f::args,x∈o.op.operands.toList:=by
 unfold De at hc;split at hc
 case h_2=>cases hc
 rename_i cl Qk;split at hc
 case h_2=>cases hc
 rename_i f' hf';simp only[Al,Prod.mk.injEq] at hc;obtain ⟨rfl,rfl⟩:=hc;intro x hxm;rw[Qk];simp[Op.operands,Call.operands,hf'] at hxm ⊢;exact hxm
theorem Uy(h:∀x∈o.op.operands.toList,ev st' x=ev st x)(hp:∀id,get st'.hp id=get st.hp id)(hK:∀d,K (st.put o.dst d)->K' (st'.put o.dst d))(hb:Uz P o K st):Uz P o K' st':=by
 obtain ⟨f,args,g,cap,ds,ho,hg,Al2,Mv⟩:=hb;have hx:=TB ho;have IJ:args.map (ev st')=args.map (ev st):=List.map_congr_left λ x HZ=>h x (hx x (by simp[HZ]));refine ⟨f,args,g,cap,ds,ho,(h f (hx f (by simp))).trans hg,?_,Mv.mono λ h' r hr=>⟨hr.1,hK _ hr.2⟩⟩;rw[IJ];exact JE _ _ (λ id _=>hp id) Al2
theorem As8{env:List (Nat×D)}{n:Nat}{e h h':Hp}(hx:HX e h h')(ho:∀x∈o.op.operands.toList,GF h (ev ⟨env,h,n⟩ x))(hb:Uz P o K ⟨env,h',n⟩):
   Uz P o (λ st=>(∃E0,HX e st.hp E0/\K {st with hp:=E0})/\EY (some (o.dst.getD 0)) h st.hp) ⟨env,h,n⟩:=by
 obtain ⟨f,args,g,cap,ds,hc,hg,Al2,Mv⟩:=hb;have Axp:=TB hc;refine ⟨f,args,g,cap,ds,hc,hg,?_,Mv.mono λ h2 r hr=>⟨hr.1,⟨h',by rw[Dn];exact hx,Tf _ _ _ hr.2⟩,λ i hi=>by rw[Dn] at hi;exact .inl hi⟩⟩;refine JE _ _ (λ id hid=>?_) Al2;rw[RV,Av] at hid;have NY:get h id≠none:=by
   rcases hid with h1 | h1
   . obtain ⟨d,hd,hi⟩:=QZ h1;obtain ⟨x,HZ,rfl⟩:=AP.1 hd;exact ho x (Axp x (by simp[HZ])) id hi
   . have h3:=ho f (Axp f (by simp)) id;have e2:ev ⟨env,h,n⟩ f= .fn g cap:=hg;rw[e2] at h3;exact h3 (by simpa [D.ids] using h1)
 exact (hx.eq NY).symm
def Ys(P:Program)(o:Oper)(K:St->Prop)(st:St):Prop:=Qr P false o K st∨Uz P o K st
theorem Ad5(hr:Rel c st a w F M)(h:Ys P o K st)(Q:Exit->Act->World->Prop):o.wp P a w (Good c K) Q:=h.elim (λ h=>Qo hr h Q) λ h=>OR hr h Q
end
end Go.Am
namespace Go.Am
open Go
structure KT(st st':St):Prop where
 n:st'.n=st.n
 env:∀t,get st'.env t=get st.env t
 hp:∀id,get st'.hp id=get st.hp id
theorem KT.refl(st:St):KT st st:=⟨rfl,λ _=>rfl,λ _=>rfl⟩
theorem KT.symm{a b:St}(h:KT a b):KT b a:=⟨h.n.symm,λ t=>(h.env t).symm,λ t=>(h.hp t).symm⟩
theorem KT.trans{a b c:St}(h:KT a b)(h':KT b c):KT a c:=⟨h'.n.trans h.n,λ t=>(h'.env t).trans (h.env t),λ t=>(h'.hp t).trans (h.hp t)⟩
theorem Rel.eqv{c:Ctx}{st st':St}{a:Act}{w:World}{F:Nat->Prop}{M:Nat->Mb}(hr:Rel c st a w F M)(h:KT st st'):Rel c st' a w F M:=by
 have hs:sg st'.hp=sg st.hp:=funext λ id=>by unfold sg;rw[h.hp]
 refine ⟨λ t d ht=>?_,by rw[h.n];exact hr.size,hr.defers,?_,?_⟩
 . rw[hs];exact hr.env t d (by rw[<-h.env];exact ht)
 . exact ⟨λ id o ho=>by rw[hs];exact hr.heap.obj id o (by rw[<-h.hp];exact ho),λ id o Ou o' b ho Nf=>hr.heap.inj id o Ou o' b (by rw[<-h.hp];exact ho) (by rw[<-h.hp];exact Nf)⟩
 . have hk:=hr.keep;exact ⟨hk.os,hk.tape,hk.output,hk.size,hk.LR,hk.F0,hk.Fn,hk.Fl,λ b ⟨id,o,ho,h1⟩=>hk.own b ⟨id,o,by rw[<-h.hp];exact ho,h1⟩,by rw[hs];exact hk.VB,hk.s0b⟩
def Sx(K:St->Prop):Prop:=∀st st',KT st st'->K st->K st'
def Avr(K:St->Prop):St->Prop:=λ st=>∃st',KT st st'/\K st'
theorem Sx.of(K:St->Prop):Sx (Avr K):=λ _ _ h ⟨s,h1,h2⟩=>⟨s,h.symm.trans h1,h2⟩
theorem XM{st st':St}(h:KT st st')(x:Operand):ev st' x=ev st x:=by
 cases x<;>simp only[ev,h.env]
theorem Hy{st:St}{t:Option Nat}{d:D}(q:Nat):get (st.put t d).env q=if t=some q/\q<st.n then some d else get st.env q:=by
 cases t with
 | none=>simp[St.put]
 | some t=>
   simp only[St.put];by_cases ht:t<st.n
   . rw[if_pos ht];simp only[Cp,Al];by_cases e:t=q
     . subst e;simp[ht]
     . simp[e]
   . rw[if_neg ht];by_cases e:t=q
     . subst e;simp[ht]
     . simp[e]
theorem Jh(st:St)(t:Option Nat)(d:D):(st.put t d).n=st.n:=by
 cases t with
 | none=>rfl
 | some t=>simp only[St.put];split<;>rfl
theorem KT.put{st st':St}(h:KT st st')(t:Option Nat)(d:D):KT (st.put t d) (st'.put t d):=by
 refine ⟨by rw[Jh,Jh];exact h.n,λ q=>?_,λ id=>by rw[Dn,Dn];exact h.hp id⟩;rw[Hy,Hy,h.n,h.env]
theorem KT.heap{st st':St}(h:KT st st'){x x':Hp}(hx:∀id,get x' id=get x id):KT {st with hp:=x} {st' with hp:=x'}:=⟨h.n,h.env,hx⟩
theorem KT.swap{st:St}{t u:Option Nat}{d x:D}(Dl:∀q,t=some q->u≠some q):KT ((st.put t d).put u x) ((st.put u x).put t d):=by
 refine ⟨by simp only[Jh],λ q=>?_,λ id=>by simp only[Dn]⟩;simp only[Hy,Jh];by_cases h1:t=some q/\q<st.n
 . rw[if_pos h1];have:=Dl q h1.1;simp[this,h1]
 . rw[if_neg h1];by_cases h2:u=some q/\q<st.n
   . simp[h2,h1]
   . simp[h2,h1]
section
variable {P:Program}
def Looks(l:List Oper)(o:Oper)(st st':St):Prop:=(∀x∈o.op.operands.toList,ev st' x=ev st x)/\J7 st' l o.guard=J7 st l o.guard
theorem Aca{st st':St}:∀{l:List Operand},(∀x∈l,ev st' x=ev st x)->l.map (ev st')=l.map (ev st)
 | [],_=>rfl
 | x::r,h=>by simp only[AD,h x (by simp),Aca (l:=r) (λ y hy=>h y (by simp[hy]))]
theorem Xl{st st':St}:∀{l:List (Nat×Operand)},(∀x∈l.map (·.2),ev st' x=ev st x)->l.map (λ q=>(q.1,ev st' q.2))=l.map (λ q=>(q.1,ev st q.2))
 | [],_=>rfl
 | x::r,h=>by simp only[AD,h x.2 (by simp),Xl (l:=r) (λ y hy=>h y (by simp only[AD,AF];exact .inr hy))]
theorem Lo{st st':St}{o:Option Operand}{n:Int}(h:∀x∈o.toList,ev st' x=ev st x):Eh st' o n=Eh st o n:=by
 cases o with
 | none=>rfl
 | some x=>simp only[Eh,h x (by simp)]
theorem Nn{st st':St}{o:Oper}(h:∀x∈o.op.operands.toList,ev st' x=ev st x)(hp:st'.hp=st.hp):Ka P st' o=Ka P st o:=by
 unfold Ka;generalize o.op=op at h;cases op with
 | call c=>
   simp only;cases hc:c.callee with
   | builtin b=>
     simp only;have:c.args.toList.map (ev st')=c.args.toList.map (ev st):=Aca λ x hx=>h x (by simp[Op.operands,Call.operands,hc];simpa using hx);rw[this];unfold Fe;rw[hp]
   | _=>rfl
 | slice t x lo hi mx=>
   have h1:ev st' x=ev st x:=h x (by simp[Op.operands]);have h2:∀n,Eh st' lo n=Eh st lo n:=λ n=>Lo λ y hy=>h y (by simp[Op.operands];cases lo<;>simp_all);have h3:∀n,Eh st' hi n=Eh st hi n:=λ n=>Lo λ y hy=>h y (by simp[Op.operands];cases hi<;>simp_all);have h4:∀m n,mx=some m->Eh st' (some m) n=Eh st (some m) n:=λ m n hm=>Lo λ y hy=>h y (by simp[Op.operands];simp_all);have:HO P st' t (ev st x) lo hi mx=HO P st t (ev st x) lo hi mx:=by
     unfold HO;simp only[h2,h3,hp];cases mx with
     | none=>rfl
     | some m=>simp only[h4 m _ rfl]
   simp only[JW,h1,this,hp]
 | build t ps=>
   have h1:ps.toList.map (λ q=>(q.1,ev st' q.2))=ps.toList.map (λ q=>(q.1,ev st q.2)):=Xl λ x hx=>h x (by simpa [Op.operands] using hx);simp only[JW,Ur,h1,hp]
 | buildSlice t n ps=>
   have h1:ps.toList.map (λ q=>(q.1,ev st' q.2))=ps.toList.map (λ q=>(q.1,ev st q.2)):=Xl λ x hx=>h x (by simpa [Op.operands] using hx);simp only[K6,h1,hp]
 | makeFunc fn first cap=>
   have h1:cap.toList.map (ev st')=cap.toList.map (ev st):=Aca λ x hx=>h x (by simp[Op.operands];exact .inr (by simpa using hx));cases fn<;>simp only[JW,h1,hp]
 | makeMap t r=>cases r<;>simp only[K6,hp]
 | _=>simp[Op.operands] at h<;>simp only[JW,K6,h,hp]
theorem k4{st st':St}{o:Oper}{f:Operand}{args:List Operand}(hc:De o.op=some (f,args))(h:∀x∈o.op.operands.toList,ev st' x=ev st x)(hp:st'.hp=st.hp):Hb st' f args=Hb st f args:=by
 unfold De at hc;split at hc
 case h_2=>cases hc
 rename_i cl Qk;split at hc
 case h_2=>cases hc
 rename_i f' hf';simp only[Al,Prod.mk.injEq] at hc;obtain ⟨rfl,rfl⟩:=hc;rw[Qk] at h;have h1:ev st' f'=ev st f':=h f' (by simp[Op.operands,Call.operands,hf']);have h2:cl.args.toList.map (ev st')=cl.args.toList.map (ev st):=Aca λ x hx=>h x (by simp[Op.operands,Call.operands,hf'];exact .inr (by simpa using hx));unfold Hb;rw[h1,h2,hp]
theorem Qq{st st':St}{o:Oper}{K K':St->Prop}(h:∀x∈o.op.operands.toList,ev st' x=ev st x)(hp:st'.hp=st.hp)
   (hK:∀y d,K (({st with hp:=y}:St).put o.dst d)->K' (({st' with hp:=y}:St).put o.dst d)) (hh:Qr P false o K st):Qr P false o K' st':=by
 unfold Qr at*;split at hh
 . rename_i f args hc;rw[k4 hc h hp];rcases Rs.F5 hh with hh | hh
   case inr=>exact (AI hh.1).elim
   simp only[Lk] at hh ⊢;exact Rs.Fg (Rs.Ce (λ x hx=>ON (λ d y hk=>hK y d hk) hx) hh)
 . rw[Nn h hp];rcases Rs.F5 hh with hh | hh
   case inr=>exact (AI hh.1).elim
   exact Rs.Fg (Rs.Ce (λ x hx=>hK _ _ hx) hh)
theorem Aih{st:St}{o:Oper}{K K':St->Prop}(hK:∀s,K s->K' s)(hh:Qr P false o K st):Qr P false o K' st:=
 Qq (λ _ _=>rfl) rfl (λ _ _ hk=>hK _ hk) hh
theorem Ap3{st st':St}(he:KT st st'){o:Oper}{K:St->Prop}(hs:Sx K)(hh:Qr P false o K st):Qr P false o K st':=by
 have h1:Qr P false o K {st' with hp:=st.hp}:=Qq (λ x _=>XM (st':={st' with hp:=st.hp}) ⟨he.n,he.env,λ _=>rfl⟩ x) rfl
   (λ y d hk=>hs _ _ (KT.put (KT.heap he λ _=>rfl) _ _) hk) hh
 have hx:HX [] st.hp st'.hp:=λ id=>by rw[he.hp];cases get st.hp id<;>rfl
 have h2:=Atc (env:=st'.env) (n:=st'.n) hx (λ id h=>(h rfl).elim) rfl h1;refine Aih (λ s ⟨y,hy,hk⟩=>?_) h2;have e:KT {s with hp:=y} s:=by
   refine ⟨rfl,λ _=>rfl,λ id=>?_⟩;have:=hy id;simp only[get] at this;rw[this];cases get y id<;>rfl
 exact hs _ _ e hk
theorem MU{st st':St}{o:Oper}{K K':St->Prop}(h:∀x∈o.op.operands.toList,ev st' x=ev st x)(hp:st'.hp=st.hp)
   (hK:∀y d,K (({st with hp:=y}:St).put o.dst d)->K' (({st' with hp:=y}:St).put o.dst d)) (hh:Ys P o K st):Ys P o K' st':=by
 rcases hh with hh | hh
 . exact .inl (Qq h hp hK hh)
 . refine .inr (Uy h (λ id=>by rw[hp]) (λ d hk=>?_) hh);have:=hK st.hp d hk;rw[<-hp] at this;exact this
theorem Hg{st:St}{o:Oper}{K K':St->Prop}(hK:∀s,K s->K' s)(hh:Ys P o K st):Ys P o K' st:=
 MU (λ _ _=>rfl) rfl (λ _ _ hk=>hK _ hk) hh
theorem Abp{st st':St}(he:KT st st'){o:Oper}{K:St->Prop}(hs:Sx K)(hh:Ys P o K st):Ys P o K st':=by
 rcases hh with hh | hh
 . exact .inl (Ap3 he hs hh)
 . exact .inr (Uy (λ x _=>XM he x) he.hp (λ d hk=>hs _ _ (he.put _ _) hk) hh)
theorem Ata{env:List (Nat×D)}{n:Nat}{e h h':Hp}(hx:HX e h h')(he:∀id,get e id≠none->id<10000)(hn:IE h){o:Oper}(hq:isQ o.op=true)(ho:∀x∈o.op.operands.toList,GF h (ev ⟨env,h,n⟩ x)){K:St->Prop}(hh:Ys P o K ⟨env,h',n⟩):
   Ys P o (λ st=>(∃E0,HX e st.hp E0/\K {st with hp:=E0})/\EY (some (o.dst.getD 0)) h st.hp) ⟨env,h,n⟩:=
 hh.elim (λ hh=> .inl (Atb hx he hn hq ho hh)) λ hh=> .inr (As8 hx ho hh)
end
end Go.Am
namespace Go.Am
open Go
def FQ:List D->Option (List Pd)
 | []=>some []
 | .p x::r=>(FQ r).map (x:: ·)
 | .cl es::r=>(FQ r).map (.sl es:: ·)
 | _::_=>none
def ID(P:Program)(st:St)(q:Nat)(op:Op):Rs (D×AO):=
 match op with
 | .alloc t=>match CC P t with
   | some ti=>match ti.zero.stored with
     | some cs=> .ret True (.ptr q 0,.box cs (npT t cs))
     | none=> .fail
   | none=> .fail
 | .box _ x=>match (ev st x).stored with
   | some cs=> .ret True (.ptr q 0,.box cs)
   | none=> .fail
 | .buildSlice t n parts=>match CC P t with
   | some ⟨_,_,.slice e,_⟩=>match CC P e with
     | some ti=>match GM (λ i=>some (i*ti.size,ti.size)) (List.replicate (n*ti.size) .bad) (parts.toList.map λ q=>(q.1,ev st q.2)) with
       | some cs=>if Xd ti cs=true then .fail else match FQ cs with
         | some y=> .ret (0<ti.size/\n*ti.size<=16777216) (.ref q 0 n n,.arr e ti.size (chunk ti.size n y))
         | none=> .fail
       | none=> .fail
     | none=> .fail
   | _=> .fail
 | .makeSlice t l m=>match CC P t,ev st l,ev st m with
   | some ⟨_,_,.slice e,_⟩,.p (.int _ l),.p (.int _ m)=>match CC P e with
     | some ti=>if ti.k.Aqc=true then .fail else match FQ ti.zero.cells with
       | some y=> .ret (0<ti.size/\(0<=l/\l<=m/\m*ti.bytes<=140737488355328/\m<=140737488355328)/\ti.zero.cells.length=ti.size) (.ref q 0 l.toNat l.toNat,.arr e ti.size (List.replicate l.toNat y))
       | none=> .fail
     | none=> .fail
   | _,_,_=> .fail
 | _=> .fail
def Gp(P:Program)(l:List Oper)(hR:Hp):List (Nat×Nat)->(St->Prop)->St->Prop
 | [],K,st=>K st
 | (i,kd)::r,K,st=>match l[i]? with
   | none=>False
   | some o=>FN st l o.guard (match kd with
     | 0=>(Ka P {st with hp:=hR} o).all λ x=>Gp P l hR r K (st.put o.dst x.1)
     | 1=>(ID P st (o.dst.getD 0) o.op).all λ x=>get st.hp (o.dst.getD 0)=none/\Gp P l hR r K (({st with hp:=(o.dst.getD 0,x.2)::st.hp}:St).put o.dst x.1)
     | 2=>Ys P o (λ s=>C8 s.hp hR/\Gp P l hR r K s) st
     | _=>Ys P o (Gp P l hR r K) st) (Gp P l hR r K (st.put o.dst (.Dg [])))
theorem Rs.leaf{α:Type}{k:α->Prop}:∀{r:Rs α},r.all k->∃a,k a/\∀k':α->Prop,k' a->r.all k'
 | .fail,h=>h.elim
 | .ret p a,h=>⟨a,h.2,λ _ hk=>⟨h.1,hk⟩⟩
 | .split b x y,h=>by
   cases b
   . obtain ⟨a,h1,h2⟩:=Rs.leaf (h.2 rfl);exact ⟨a,h1,λ k' hk=>⟨λ e=>(AI e).elim,λ _=>h2 k' hk⟩⟩
   . obtain ⟨a,h1,h2⟩:=Rs.leaf (h.1 rfl);exact ⟨a,h1,λ k' hk=>⟨λ _=>h2 k' hk,λ e=>(AI e.symm).elim⟩⟩
theorem G7(st:St)(l:List Oper)(g:Option (Nat×Bool))(yes no:Prop):FN st l g yes no=match J7 st l g with
   | .yes=>yes
   | .no=>no
   | .cond b=>WM b yes no
   | .bad=>False:=by
 unfold FN J7;cases g with
 | none=>rfl
 | some g=>
   obtain ⟨j,want⟩:=g;simp only;cases ((l[j]?).bind (·.dst)).bind (get st.env) with
   | none=>rfl
   | some d=>cases d with
     | p q=>cases q<;>rfl
     | Dg cs=>cases cs<;>rfl
     | _=>rfl
theorem R1{st:St}{l:List Oper}{g:Option (Nat×Bool)}{yes no:Prop}(h:FN st l g yes no):
   (yes/\∀(st':St) (y n:Prop),J7 st' l g=J7 st l g->y->FN st' l g y n)∨(no/\∀(st':St) (y n:Prop),J7 st' l g=J7 st l g->n->FN st' l g y n):=by
 rw[G7] at h;cases hg:J7 st l g with
 | yes=>rw[hg] at h;exact .inl ⟨h,λ st' y n e hy=>by rw[G7,e];exact hy⟩
 | no=>rw[hg] at h;exact .inr ⟨h,λ st' y n e hy=>by rw[G7,e];exact hy⟩
 | bad=>rw[hg] at h;exact h.elim
 | cond b=>
   rw[hg] at h;cases b
   . exact .inr ⟨h.2 rfl,λ st' y n e hy=>by rw[G7,e];exact ⟨λ e=>(AI e).elim,λ _=>hy⟩⟩
   . exact .inl ⟨h.1 rfl,λ st' y n e hy=>by rw[G7,e];exact ⟨λ _=>hy,λ e=>(AI e.symm).elim⟩⟩
theorem Dy{st st':St}{l:List Oper}{g:Option (Nat×Bool)}{yes no Awc no':Prop}(e:J7 st' l g=J7 st l g)(hy:yes->Awc)(hn:no->no')(h:FN st l g yes no):FN st' l g Awc no':=by
 rcases R1 h with ⟨h1,h2⟩ | ⟨h1,h2⟩
 . exact h2 st' _ _ e (hy h1)
 . exact h2 st' _ _ e (hn h1)
section
variable {P:Program} {l:List Oper} {hR:Hp}
theorem Al6{st st':St}(h:KT st st')(g:Option (Nat×Bool)):J7 st' l g=J7 st l g:=by
 unfold J7;have:get st'.env=get st.env:=funext h.env;rw[this]
theorem Lq{st st':St}{q:Nat}{op:Op}(h:∀x∈op.operands.toList,ev st' x=ev st x):ID P st' q op=ID P st q op:=by
 unfold ID;cases op with
 | box t x=>simp only[h x (by simp[Op.operands])]
 | buildSlice t n ps=>
   have h1:ps.toList.map (λ q=>(q.1,ev st' q.2))=ps.toList.map (λ q=>(q.1,ev st q.2)):=Xl λ x hx=>h x (by simpa [Op.operands] using hx);simp only[h1]
 | makeSlice t l m=>simp only[h l (by simp[Op.operands]),h m (by simp[Op.operands])]
 | _=>rfl
theorem KZ:∀{cs:List D} {y:List Pd},FQ cs=some y->∀(h:Hp) (k:List Pd×Hp->Prop),k (y,h)->(Ij h cs).all k
 | [],y,hp,h,k,hk=>by simp only[FQ,Al] at hp;subst hp;exact ⟨trivial,hk⟩
 | .p x::r,y,hp,h,k,hk=>by
   simp only[FQ,BC] at hp;obtain ⟨z,hz,rfl⟩:=hp;exact Rs.CF ⟨trivial,Rs.CF (KZ hz h _ ⟨trivial,hk⟩)⟩
 | .cl es::r,y,hp,h,k,hk=>by
   simp only[FQ,BC] at hp;obtain ⟨z,hz,rfl⟩:=hp;exact Rs.CF ⟨trivial,Rs.CF (KZ hz h _ ⟨trivial,hk⟩)⟩
 | .agg _::r,y,hp,h,k,hk=>by simp[FQ] at hp
 | .Dg _::r,y,hp,h,k,hk=>by simp[FQ] at hp
 | .cz _::r,y,hp,h,k,hk=>by simp[FQ] at hp
 | .ref _ _ _ _::r,y,hp,h,k,hk=>by simp[FQ] at hp
 | .ptr _ _::r,y,hp,h,k,hk=>by simp[FQ] at hp
 | .pe _::r,y,hp,h,k,hk=>by simp[FQ] at hp
 | .ea _ _ _ _::r,y,hp,h,k,hk=>by simp[FQ] at hp
 | .fn _ _::r,y,hp,h,k,hk=>by simp[FQ] at hp
 | .np::r,y,hp,h,k,hk=>by simp[FQ] at hp
 | .mv _::r,y,hp,h,k,hk=>by simp[FQ] at hp
 | .Di _ _::r,y,hp,h,k,hk=>by simp[FQ] at hp
 | .LL _ _ _::r,y,hp,h,k,hk=>by simp[FQ] at hp
 | .nr _ _ _ _::r,y,hp,h,k,hk=>by simp[FQ] at hp
 | .Qs::r,y,hp,h,k,hk=>by simp[FQ] at hp
 | .bad::r,y,hp,h,k,hk=>by simp[FQ] at hp
theorem WJ{st:St}{o:Oper}{K:St->Prop}(h:(ID P st (o.dst.getD 0) o.op).all λ x=>get st.hp (o.dst.getD 0)=none/\K (({st with hp:=(o.dst.getD 0,x.2)::st.hp}:St).put o.dst x.1)):
   De o.op=none/\Ka P st o=K6 P st (o.dst.getD 0) o.op/\(K6 P st (o.dst.getD 0) o.op).all λ x=>K (({st with hp:=x.2}:St).put o.dst x.1):=by
 unfold ID at h;unfold Ka De;split at h
 . rename_i t ho;simp only[ho,true_and];split at h
   . rename_i h1;split at h
     . rename_i h2;simp only[K6,h1,h2];exact ⟨h.2.1,h.2.2⟩
     . exact h.elim
   . exact h.elim
 . rename_i t x ho;simp only[ho,true_and];split at h
   . rename_i h2;simp only[K6,h2];exact ⟨h.2.1,h.2.2⟩
   . exact h.elim
 . rename_i t n parts ho;simp only[ho,true_and];split at h
   . rename_i h1;split at h
     . rename_i h2;split at h
       . rename_i h3;split at h
         . exact h.elim
         rename_i hnr;split at h
         . rename_i h4;simp only[K6,h1,h2,h3,if_neg hnr];exact Rs.CF (KZ h4 _ _ ⟨⟨h.1.1,h.1.2,h.2.1⟩,h.2.2⟩)
         . exact h.elim
       . exact h.elim
     . exact h.elim
   . exact h.elim
 . rename_i t l m ho;simp only[ho,true_and];split at h
   . rename_i h1 h2 h3;split at h
     . rename_i h4;split at h
       . exact h.elim
       rename_i hnr;split at h
       . rename_i h5;simp only[K6,h1,h2,h3,h4,if_neg hnr];exact Rs.CF (KZ h5 _ _ ⟨⟨h.1.1,h.2.1,h.1.2.1,h.1.2.2⟩,h.2.2⟩)
       . exact h.elim
     . exact h.elim
   . exact h.elim
 . exact h.elim
theorem C8.congr{h h2:Hp}(he:∀id,get h2 id=get h id):∀{h1:Hp},C8 h h1->C8 h2 h1
 | [],_=>trivial
 | (id,o)::r,hl=>⟨by rw[he];exact hl.1,C8.congr he hl.2⟩
theorem Ib{K:St->Prop}(hK:Sx K):∀(r:List (Nat×Nat)),Sx (Gp P l hR r K)
 | []=>hK
 | (i,kd)::r=>by
   intro st st' he h;have ih:=Ib hK r;simp only[Gp] at h ⊢;split at h
   . exact h.elim
   . rename_i o ho;(try simp only[ho]);refine Dy (Al6 he _) (λ hy=>?_) (λ hn=>ih _ _ (he.put _ _) hn) h;split at hy
     . rw[Nn (st:={st with hp:=hR}) (st':={st' with hp:=hR}) (λ x _=>XM (he.heap (x:=hR) (x':=hR) λ _=>rfl) x) rfl];exact Rs.Ce (λ x hx=>ih _ _ (he.put _ _) hx) hy
     . rw[Lq (st:=st) (λ x _=>XM he x)];refine Rs.Ce (λ x hx=>⟨by rw[he.hp];exact hx.1,ih _ _ (KT.put (he.heap λ id=>?_) _ _) hx.2⟩) hy;simp only[Cp,he.hp]
     . exact Abp he (λ s s' hs hh=>⟨hh.1.congr hs.hp,ih _ _ hs hh.2⟩) hy
     . exact Abp he ih hy
end
end Go.Am
namespace Go.Am
open Go
section
variable {P:Program} {l:List Oper} {hR:Hp}
theorem C8.hx{h:Hp}(hl:C8 h hR):HX h hR h:=by
 intro id;cases hg:get hR id with
 | none=>rfl
 | some o=>exact hl.spec id o hg
theorem Zf{o:Oper}(hv:NW o.op=true):De o.op=none:=by
 unfold De;split
 . rename_i c hc;rw[hc] at hv;split
   . rename_i f hf;simp[NW,hf] at hv
   . rfl
 . rfl
theorem Ao3{env:List (Nat×D)}{n:Nat}{e h h':Hp}(hx:HX e h h'){q:Nat}{b:Builtin}(hb:b≠ .append)(Yk:b≠ .copy){ts:Array TypeId}{args:List D}{k:D->Prop}(hh:(Fe P ⟨env,h,n⟩ q b ts args).all (λ x=>k x.1)):
   (Fe P ⟨env,h',n⟩ q b ts args).all (λ y=>y.2=h'/\k y.1):=by
 unfold Fe at*;split at hh
 . split at hh
   . refine Rs.CF (Rs.Ce (λ y hy=>?_) (Acd hx (Rs.all_bind hh)));exact ⟨hy.1,rfl,hy.2⟩
   . exact hh.elim
 . exact (hb rfl).elim
 . exact (Yk rfl).elim
 . exact ⟨hh.1,rfl,hh.2⟩
 . exact ⟨hh.1,rfl,hh.2⟩
 . exact hh.elim
theorem doV{env:List (Nat×D)}{n:Nat}{e h h':Hp}(hx:HX e h h'){o:Oper}(hv:NW o.op=true){k:D->Prop}(hh:(Ka P ⟨env,h,n⟩ o).all (λ x=>k x.1)):(Ka P ⟨env,h',n⟩ o).all (λ x=>x.2=h'/\k x.1):=by
 have val:∀{op:Op},((JW P ⟨env,h,n⟩ op).bind λ d=> .ret True (d,h)).all (λ x=>k x.1)->((JW P ⟨env,h',n⟩ op).bind λ d=> .ret True (d,h')).all (λ x=>x.2=h'/\k x.1):=λ hv=>
   Rs.CF (Rs.Ce (λ d hd=>⟨hd.1,rfl,hd.2⟩) (Abq hx (Rs.all_bind hv)))
 unfold Ka at*;generalize o.op=op at hv hh ⊢;cases op with
 | call c=>
   cases hc:c.callee with
   | builtin b=>
     simp only[hc] at hh ⊢;exact Ao3 hx (λ e=>by subst e;simp[NW,hc] at hv) (λ e=>by subst e;simp[NW,hc] at hv) hh
   | _=>simp only[hc] at hh;exact hh.elim
 | alloc _=>simp[NW] at hv
 | box _ _=>simp[NW] at hv
 | store _ _ _=>simp[NW] at hv
 | buildSlice _ _ _=>simp[NW] at hv
 | makeSlice _ _ _=>simp[NW] at hv
 | makeMap _ _=>simp[NW] at hv
 | mapUpdate _ _ _ _=>simp[NW] at hv
 | _=>exact val hh
theorem Qp{st:St}{o:Oper}{K:St->Prop}(hc:De o.op=none)(h:(Ka P st o).all λ x=>K (({st with hp:=x.2}:St).put o.dst x.1)):Qr P false o K st:=by
 unfold Qr;rw[hc];exact Rs.Fg h
theorem eff{i kd:Nat}{r:List (Nat×Nat)}{K:St->Prop}{st:St}{o:Oper}(ho:l[i]?=some o)(hk:kd=0∨kd=1)(hv:kd=0->NW o.op=true)(h:Gp P l hR ((i,kd)::r) K st):
   ∃(e:Hp) (d:D),(e=[]∨(kd=1/\∃ao,e=[(o.dst.getD 0,ao)]))/\(∀x∈e,get st.hp x.1=none)/\Gp P l hR r K (({st with hp:=e++st.hp}:St).put o.dst d)/\
     (∀(s:St) (r':List (Nat×Nat)) (K':St->Prop),Looks l o st s->(∀x∈e,get s.hp x.1=none)->Gp P l hR r' K' (({s with hp:=e++s.hp}:St).put o.dst d)->Gp P l hR ((i,kd)::r') K' s)/\
     (∀(c:Ctx) (a:Act) (w:World) (F:Nat->Prop) (M:Nat->Mb),Rel c st a w F M->(kd=0->C8 st.hp hR)->∃a' w' F' M',Rel c (({st with hp:=e++st.hp}:St).put o.dst d) a' w' F' M'):=by
 simp only[Gp,ho] at h;rcases R1 h with ⟨hy,G6⟩ | ⟨hn,G6⟩
 . rcases hk with rfl | rfl
   . simp only at hy;obtain ⟨x,hx,hb⟩:=Rs.leaf hy;refine ⟨[],x.1,.inl rfl,(λ y hy=>by cases hy),hx,λ s r' K' hl _ hg=>?_,λ c a w F M hr hle=>?_⟩
     . simp only[Gp,ho];refine G6 s _ _ hl.2 ?_;(try simp only);rw[Nn (st:={st with hp:=hR}) (st':={s with hp:=hR}) (λ x hx=>hl.1 x hx) rfl];exact hb _ hg
     . have h1:(Ka P ⟨st.env,hR,st.n⟩ o).all (λ y=>(λ d=>d=x.1) y.1):=hb (λ y=>y.1=x.1) rfl;have h2:=doV (k:=λ d=>d=x.1) (hle rfl).hx (hv rfl) h1;have h3:Qr P false o (λ s=>s=st.put o.dst x.1) st:=Qp (Zf (hv rfl)) (Rs.Ce (λ y hy=>by
         obtain ⟨e1,e2⟩:=hy;rw[e1,e2]) h2)
       obtain ⟨d,v,e1,hd,_⟩:=Aep hr (hv rfl) h3;have:=hr.put hd o.dst;rw[e1] at this;exact ⟨_,w,F,M,this⟩
   . simp only at hy;obtain ⟨x,hx,hb⟩:=Rs.leaf hy;refine ⟨[(o.dst.getD 0,x.2)],x.1,.inr ⟨rfl,x.2,rfl⟩,(λ y hy=>by simp only[Aw] at hy;subst hy;exact hx.1),hx.2,λ s r' K' hl hf hg=>?_,λ c a w F M hr _=>?_⟩
     . simp only[Gp,ho];refine G6 s _ _ hl.2 ?_;(try simp only);rw[Lq (st:=st) (λ x hx=>hl.1 x hx)];exact hb _ ⟨hf (o.dst.getD 0,x.2) (by simp),hg⟩
     . obtain ⟨_,_,h1⟩:=WJ (K:=λ s=>s=({st with hp:=(o.dst.getD 0,x.2)::st.hp}:St).put o.dst x.1) (hb (λ y=>get st.hp (o.dst.getD 0)=none/\({st with hp:=(o.dst.getD 0,y.2)::st.hp}:St).put o.dst y.1=({st with hp:=(o.dst.getD 0,x.2)::st.hp}:St).put o.dst x.1) ⟨hx.1,rfl⟩);obtain ⟨d,h',v,w',F',M',e1,Kd,_,hd,_⟩:=Gm hr (o:=o) (k:=λ d h=>({st with hp:=h}:St).put o.dst d=({st with hp:=(o.dst.getD 0,x.2)::st.hp}:St).put o.dst x.1) (Il h1);have:=Kd.put hd o.dst;(try simp only at e1);rw[e1] at this;exact ⟨_,w',F',M',this⟩
 . refine ⟨[],.Dg [],.inl rfl,(λ y hy=>by cases hy),hn,λ s r' K' hl _ hg=>?_,λ c a w F M hr _=>?_⟩
   . simp only[Gp,ho];exact G6 s _ _ hl.2 hg
   . exact ⟨_,w,F,M,hr.put (.Dg [] #[] rfl (λ i d hd=>by simp at hd)) o.dst⟩
end
end Go.Am
namespace Go.Am
open Go
structure Ap(l:List Oper)(x y:Oper):Prop where
 a:∀d,x.dst=some d->d∉y.looksAt l.toArray
 b:∀d,x.dst=some d->y.dst≠some d
 c:∀d,y.dst=some d->d∉x.looksAt l.toArray
section
variable {P:Program} {l:List Oper} {hR:Hp}
theorem FF{o:Oper}{st:St}{t:Option Nat}{d:D}{h:Hp}(hn:∀q,t=some q->q∉o.looksAt l.toArray):Looks l o st (({st with hp:=h}:St).put t d):=by
 refine ⟨λ x hx=>?_,?_⟩
 . cases x with
   | tmp q=>
     simp only[ev,Hy];rw[if_neg];rintro ⟨e,_⟩;refine hn q e ?_;unfold Oper.looksAt;exact BO _ (List.mem_filterMap.2 ⟨.tmp q,hx,rfl⟩)
   | _=>rfl
 . unfold J7;cases hg:o.guard with
   | none=>rfl
   | some g=>
     obtain ⟨j,want⟩:=g;simp only;cases hj:(l[j]?).bind (·.dst) with
     | none=>rfl
     | some q=>
       have:get (({st with hp:=h}:St).put t d).env q=get st.env q:=by
         rw[Hy,if_neg];rintro ⟨e,_⟩;refine hn q e ?_;unfold Oper.looksAt;refine List.mem_append_right _ ?_;rw[hg];simp[hj]
       simp only[Aa,this]
theorem Looks.trans{o:Oper}{a b c:St}(h:Looks l o a b)(h':Looks l o b c):Looks l o a c:=⟨λ x hx=>(h'.1 x hx).trans (h.1 x hx),h'.2.trans h.2⟩
theorem Looks.heap{o:Oper}{a b:St}(h:Looks l o a b)(x y:Hp):Looks l o {a with hp:=x} {b with hp:=y}:=by
 refine ⟨λ z hz=>?_,?_⟩
 . have:=h.1 z hz;cases z<;>exact this
 . exact h.2
theorem SD{st:St}{e:Hp}{t u:Option Nat}{d x:D}(Dl:∀q,t=some q->u≠some q):
   KT ((({st with hp:=e++st.hp}:St).put t d).put u x) (({(st.put u x) with hp:=e++(st.put u x).hp}:St).put t d):=by
 have h1:KT ((({st with hp:=e++st.hp}:St).put t d).put u x) ((({st with hp:=e++st.hp}:St).put u x).put t d):=KT.swap Dl;refine h1.trans (KT.put ?_ _ _);refine ⟨by simp only[Jh],λ q=>?_,λ id=>?_⟩
 . simp only[Hy]
 . simp only[Dn]
theorem Asi{K:St->Prop}(hK:Sx K){j:Nat}{oj:Oper}(hj:l[j]?=some oj)(post:List (Nat×Nat)):∀(pre:List (Nat×Nat)) {st:St},Gp P l hR (pre++(j,0)::post) K st->
   (∀x∈pre,(x.2=0∨x.2=1)/\∃oi,l[x.1]?=some oi/\(x.2=0->NW oi.op=true)/\Ap l oi oj)->
   FN st l oj.guard ((Ka P {st with hp:=hR} oj).all λ x=>Gp P l hR (pre++post) K (st.put oj.dst x.1)) (Gp P l hR (pre++post) K (st.put oj.dst (.Dg [])))
 | [],st,h,_=>by
   simp only[Bh,Gp,hj] at h;exact h
 | (i,ki)::pre,st,h,hp=>by
   obtain ⟨hk,oi,ho,hv,XF⟩:=hp (i,ki) (by simp);obtain ⟨e,d,he,hf,hg,G6,_⟩:=eff ho hk hv h;have ih:=Asi hK hj post pre hg (λ x hx=>hp x (by simp[hx]));have hlk:Looks l oj st (({st with hp:=e++st.hp}:St).put oi.dst d):=FF XF.a;have go:∀x:D,Gp P l hR (pre++post) K ((({st with hp:=e++st.hp}:St).put oi.dst d).put oj.dst x)->Gp P l hR ((i,ki)::(pre++post)) K (st.put oj.dst x):=by
     intro x hx;refine G6 _ _ _ (FF (h:=st.hp) XF.c) (λ y hy=>by rw[Dn];exact hf y hy) (Ib hK _ _ _ (SD XF.b) hx)
   refine Dy hlk.2.symm (λ hy=>?_) (λ hn=>go _ hn) ih;rw[Nn (st:={st with hp:=hR}) (λ x hx=>(hlk.heap hR hR).1 x hx) rfl] at hy;exact Rs.Ce (λ x hx=>go _ hx) hy
theorem Asj{K:St->Prop}(hK:Sx K){j:Nat}{oj:Oper}(hj:l[j]?=some oj)(post:List (Nat×Nat)):∀(pre:List (Nat×Nat)) {st:St},Gp P l hR (pre++(j,1)::post) K st->
   (∀x∈pre,(x.2=0∨x.2=1)/\∃oi,l[x.1]?=some oi/\(x.2=0->NW oi.op=true)/\Ap l oi oj/\(x.2=1->oi.dst.getD 0≠oj.dst.getD 0))->
   FN st l oj.guard ((ID P st (oj.dst.getD 0) oj.op).all λ x=>get st.hp (oj.dst.getD 0)=none/\Gp P l hR (pre++post) K (({st with hp:=(oj.dst.getD 0,x.2)::st.hp}:St).put oj.dst x.1)) (Gp P l hR (pre++post) K (st.put oj.dst (.Dg [])))
 | [],st,h,_=>by
   simp only[Bh,Gp,hj] at h;exact h
 | (i,ki)::pre,st,h,hp=>by
   obtain ⟨hk,oi,ho,hv,XF,Aqt⟩:=hp (i,ki) (by simp);obtain ⟨e,d,he,hf,hg,G6,_⟩:=eff ho hk hv h;have ih:=Asj hK hj post pre hg (λ x hx=>hp x (by simp[hx]));have hlk:Looks l oj st (({st with hp:=e++st.hp}:St).put oi.dst d):=FF XF.a;have Zs:∀y∈e,y.1≠oj.dst.getD 0:=by
     intro y hy;rcases he with rfl | ⟨h1,ao,rfl⟩
     . cases hy
     . simp only[Aw] at hy;subst hy;exact Aqt h1
   refine Dy hlk.2.symm (λ hy=>?_) (λ hn=>?_) ih
   . rw[Lq (st:=st) (λ x hx=>hlk.1 x hx)] at hy;refine Rs.Ce (λ x hx=>?_) hy;obtain ⟨h1,h2⟩:=hx;rw[Dn] at h1;simp only at h1;have Aaw:get st.hp (oj.dst.getD 0)=none:=by
       rcases he with rfl | ⟨_,ao,rfl⟩
       . exact h1
       . simp only[List.singleton_append,Cp] at h1;rw[if_neg (Zs (oi.dst.getD 0,ao) (by simp))] at h1;exact h1
     refine ⟨Aaw,?_⟩;refine G6 _ _ _ ((FF (h:=(oj.dst.getD 0,x.2)::st.hp) XF.c)) (λ y hy=>?_) ?_
     . rw[Dn];simp only[Cp];rw[if_neg (λ e2=>Zs y hy e2.symm)];exact hf y hy
     . refine Ib hK _ _ _ ?_ h2;have h3:=SD (st:={st with hp:=(oj.dst.getD 0,x.2)::st.hp}) (e:=e) (d:=d) (x:=x.1) XF.b;refine KT.trans ?_ h3;refine ⟨by simp only[Jh],λ q=>by simp only[Hy,Jh],λ id=>?_⟩;simp only[Dn];rcases he with rfl | ⟨_,ao,rfl⟩
       . rfl
       . simp only[List.singleton_append,Cp];by_cases e1:oi.dst.getD 0=id
         . by_cases e2:oj.dst.getD 0=id
           . exact (Zs (oi.dst.getD 0,ao) (by simp) (e1.trans e2.symm)).elim
           . simp[e1,e2]
         . simp[e1]
   . refine G6 _ _ _ (FF (h:=st.hp) XF.c) (λ y hy=>by rw[Dn];exact hf y hy) (Ib hK _ _ _ (SD XF.b) hn)
end
end Go.Am
namespace Go.Am
open Go
theorem Mm:∀{cs:List D} {id:Nat},id∈Da cs->∃(i:Nat) (c:D),cs[i]?=some c/\id∈c.ids
 | [],id,h=>by simp[Da] at h
 | d::r,id,h=>by
   simp only[Da,Av] at h;rcases h with h | h
   . exact ⟨0,d,rfl,h⟩
   . obtain ⟨i,c,h1,h2⟩:=Mm h;exact ⟨i+1,c,by simpa using h1,h2⟩
theorem DR.Ats{F:Nat->Prop}{w:World}{M:Nat->Mb}{s:Nat->Option Sg}{d:D}{v:Value}(h:DR F w M s d v):∀id∈d.ids,s id≠none:=by
 induction h with
 | p _=>intro id hi;simp[D.ids] at hi
 | agg cs vs hl _ ih=>intro id hi;obtain ⟨i,c,h1,h2⟩:=Mm hi;exact ih i c h1 id h2
 | Dg cs vs hl _ ih=>intro id hi;obtain ⟨i,c,h1,h2⟩:=Mm hi;exact ih i c h1 id h2
 | cl es a _ _=>intro id hi;simp[D.ids] at hi
 | cz es a _=>intro id hi;simp[D.ids] at hi
 | ref id off len N sz n v hs _ _ _=>intro i hi;simp only[D.ids,Aw] at hi;subst hi;rw[hs];simp
 | ptr id off hs=>intro i hi;simp only[D.ids,Aw] at hi;subst hi;rw[hs];simp
 | pe _ _ _ _ _ _ _ _ _ _=>intro id hi;simp[D.ids] at hi
 | ea id i c N sz n v hs _ _ _=>intro i hi;simp only[D.ids,Aw] at hi;subst hi;rw[hs];simp
 | fn f cap vs hl _ ih=>intro id hi;obtain ⟨i,c,h1,h2⟩:=Mm hi;exact ih i c h1 id h2
 | Qs _ _=>intro id hi;simp[D.ids] at hi
 | bad _=>intro id hi;simp[D.ids] at hi
 | np=>intro id hi;simp[D.ids] at hi
 | mv id hs=>intro i hi;simp only[D.ids,Aw] at hi;subst hi;rw[hs];simp
 | Di id n sz m k v hs _ _ _=>intro i hi;simp only[D.ids,Aw] at hi;subst hi;rw[hs];simp
 | LL id i n sz m k b hs _ _ _=>intro i hi;simp only[D.ids,Aw] at hi;subst hi;rw[hs];simp
 | nr id i n q sz m k v hs _ _ _=>intro i hi;simp only[D.ids,Aw] at hi;subst hi;rw[hs];simp
section
variable {P:Program} {l:List Oper} {hR:Hp}
theorem Abv{h:Hp}{id:Nat}:sg h id≠none->get h id≠none:=by
 intro hs hg;exact hs (by simp[sg,hg])
theorem Rel.nod{c:Ctx}{st:St}{a:Act}{w:World}{F:Nat->Prop}{M:Nat->Mb}(hr:Rel c st a w F M):IE st.hp/\∀x,GF st.hp (ev st x):=by
 refine ⟨λ id o ho i hi=>?_,λ x id hi=>Abv ((Ci hr x).Ats id hi)⟩;have hob:=hr.heap.obj id o ho;cases o with
 | box cs ty=>
   obtain ⟨_,row,t,_,_,hd⟩:=hob;obtain ⟨j,c,h1,h2⟩:=Mm (cs:=cs) hi;exact Abv ((hd.1 j c h1).1.Ats i h2)
 | _=>simp[AO.ids] at hi
theorem C8.app{h e:Hp}(he:e=[]∨∃x,e=[x])(hf:∀x∈e,get h x.1=none):∀{h1:Hp},C8 h h1->C8 (e++h) h1
 | [],_=>trivial
 | (id,o)::r,hl=>by
   refine ⟨?_,C8.app he hf hl.2⟩;rcases he with rfl | ⟨x,rfl⟩
   . exact hl.1
   . simp only[List.singleton_append];rw[Cp,if_neg]
     . exact hl.1
     . intro e1;have:=hf x (by simp);rw[e1,hl.1] at this;cases this
theorem C8.Asc{h e y:Hp}(hx:HX e y h)(hf:∀x∈e,get y x.1=none)(he:e=[]∨∃x,e=[x]){st:Hp}(hs:∀x∈e,get st x.1=none):∀{h1:Hp},C8 st h1->C8 h h1->C8 y h1
 | [],_,_=>trivial
 | (id,o)::r,h0,hl=>by
   refine ⟨?_,C8.Asc hx hf he hs h0.2 hl.2⟩;have h1:=hl.1;rw[hx] at h1;cases hg:get y id with
   | some o2=>rw[hg] at h1;exact h1
   | none=>
     rw[hg] at h1;simp only at h1;rcases he with rfl | ⟨x,rfl⟩
     . cases h1
     . rw[Cp] at h1;split at h1
       . rename_i e1;have:=hs x (by simp);rw[e1,h0.1] at this;cases this
       . cases h1
theorem HX.app{h e:Hp}(he:e=[]∨∃x,e=[x])(hf:∀x∈e,get h x.1=none):HX e h (e++h):=by
 rcases he with rfl | ⟨⟨q,o⟩,rfl⟩
 . exact HX.refl h
 . exact HX.one (hf (q,o) (by simp))
theorem HX.Hz{h y e:Hp}(hx:HX e h y)(he:e=[]∨∃x,e=[x])(hf:∀x∈e,get h x.1=none)(id:Nat):get (e++h) id=get y id:=by
 rw[hx];rcases he with rfl | ⟨x,rfl⟩
 . simp only[Bh];cases get h id<;>rfl
 . simp only[List.singleton_append];rw[Cp];by_cases e1:x.1=id
   . have:=hf x (by simp);rw[e1] at this;rw[if_pos e1,this];simp[get,e1]
   . rw[if_neg e1];cases hg:get h id with
     | none=>simp[get,e1]
     | some o=>rfl
theorem Ajn{K:St->Prop}(hK:Sx K){c:Ctx}{j kj:Nat}{oj:Oper}(hj:l[j]?=some oj)(hkj:kj=2∨kj=3)(hq:isQ oj.op=true)(post:List (Nat×Nat)):
   ∀(pre:List (Nat×Nat)) {st:St} {a:Act} {w:World} {F:Nat->Prop} {M:Nat->Mb},Rel c st a w F M->Gp P l hR (pre++(j,kj)::post) K st->(kj=2∨(∃x∈pre,x.2=0)->C8 st.hp hR)->
   (∀x∈pre,(x.2=0∨x.2=1)/\∃oi,l[x.1]?=some oi/\(x.2=0->NW oi.op=true)/\Ap l oi oj/\(x.2=1->oi.dst.getD 0≠oj.dst.getD 0/\oi.dst.getD 0<10000))->
   FN st l oj.guard (Ys P oj (λ s=>(kj=2->C8 s.hp hR)/\Gp P l hR (pre++post) K s) st) (Gp P l hR (pre++post) K (st.put oj.dst (.Dg [])))
 | [],st,a,w,F,M,hr,h,hle,_=>by
   simp only[Bh,Gp,hj] at h;refine Dy rfl (λ hy=>?_) id h;rcases hkj with rfl | rfl
   . exact Hg (λ s hs=>⟨λ _=>hs.1,hs.2⟩) hy
   . exact Hg (λ s hs=>⟨λ e=>(by cases e),hs⟩) hy
 | (i,ki)::pre,st,a,w,F,M,hr,h,hle,hp=>by
   obtain ⟨hk,oi,ho,hv,XF,Aqt⟩:=hp (i,ki) (by simp);obtain ⟨e,d,he,hf,hg,G6,Aum⟩:=eff ho hk hv h;have he':e=[]∨∃x,e=[x]:=by
     rcases he with h1 | ⟨_,ao,h1⟩
     . exact .inl h1
     . exact .inr ⟨_,h1⟩
   obtain ⟨a1,w1,F1,M1,GG⟩:=Aum c a w F M hr (λ e0=>hle (.inr ⟨(i,ki),by simp,e0⟩));have ih:=Ajn hK hj hkj hq post pre GG hg (λ hh=>by
     rw[Dn];refine C8.app he' hf (hle ?_);rcases hh with h1 | ⟨x,hx,hx0⟩
     . exact .inl h1
     . exact .inr ⟨x,by simp[hx],hx0⟩) (λ x hx=>hp x (by simp[hx]))
   have hlk:Looks l oj st (({st with hp:=e++st.hp}:St).put oi.dst d):=FF XF.a;refine Dy hlk.2.symm (λ hy=>?_) (λ hn=>?_) ih
   . have h1:Ys P oj (λ s=>(kj=2->C8 s.hp hR)/\Gp P l hR (pre++post) K (s.put oi.dst d)) {st with hp:=e++st.hp}:=by
       refine MU (λ x hx=>(hlk.1 x hx).symm) (by rw[Dn]) (λ y x hk=>?_) hy;refine ⟨λ e2=>by have:=hk.1 e2;simp only[Dn] at this ⊢;exact this,?_⟩;refine Ib hK _ _ _ ?_ hk.2;have h2:KT ((({st with hp:=y}:St).put oi.dst d).put oj.dst x) ((({st with hp:=y}:St).put oj.dst x).put oi.dst d):=KT.swap XF.b;refine KT.trans ?_ h2;refine ⟨by simp only[Jh],λ q=>by simp only[Hy,Jh],λ id=>by simp only[Dn]⟩
     obtain ⟨LV,hpr⟩:=hr.nod;have heN:∀id,get e id≠none->id<10000:=by
       intro id hid;rcases he with h1 | ⟨Q5,ao,h1⟩
       . subst h1;exact (hid rfl).elim
       . subst h1;rw[Cp] at hid;split at hid
         . rename_i e1;subst e1;exact (Aqt Q5).2
         . exact (hid rfl).elim
     have h2:=Ata (env:=st.env) (n:=st.n) (HX.app he' hf) heN LV hq (λ x _=>hpr x) h1;refine MU (st:=st) (λ _ _=>rfl) rfl (λ y x hk=>?_) h2;obtain ⟨⟨E0,IH,Auw,Ra⟩,Ms⟩:=hk;rw[Dn] at IH Ms;simp only at IH Ms;have hfy:∀z∈e,get y z.1=none:=by
       intro z hz;cases hgz:get y z.1 with
       | none=>rfl
       | some o=>
         exfalso;rcases he with rfl | ⟨Q5,ao,rfl⟩
         . cases hz
         . simp only[Aw] at hz;subst hz;obtain ⟨V7,Jt⟩:=Aqt Q5;rcases Ms (oi.dst.getD 0) (by rw[hgz];simp) with h3 | h3 | h3
           . exact h3 (hf (oi.dst.getD 0,ao) (by simp))
           . exact V7 (Ac h3)
           . exact absurd Jt (Nat.not_lt.2 h3)
     refine ⟨λ e2=>by
       rw[Dn];exact C8.Asc IH hfy he' hf (hle (.inl e2)) (Auw e2),?_⟩
     refine G6 _ _ _ (FF (h:=y) XF.c) (λ z hz=>by rw[Dn];exact hfy z hz) ?_;refine Ib hK _ _ _ (KT.put ?_ _ _) Ra;refine ⟨rfl,λ _=>rfl,λ id=>?_⟩;simp only[Dn];exact HX.Hz IH he' hfy id
   . refine G6 _ _ _ (FF (h:=st.hp) XF.c) (λ y hy=>by rw[Dn];exact hf y hy) (Ib hK _ _ _ (SD XF.b) hn)
end
end Go.Am
namespace Go.Am
open Go
def waits(o:Oper)(i:Nat):Bool:=o.after.toList.any λ e=>Region.binds .any e&&e.on==i
def V5:Op->Bool
 | .move _ | .assign _ | .binOp _ _ _ _ _ | .unOp _ _ _ | .extract _ _=>true
 | _=>false
theorem Ahb{P:Program}{env:List (Nat×D)}{n:Nat}{h h':Hp}{o:Oper}(hv:V5 o.op=true){k:D->Prop}(hh:(Ka P ⟨env,h,n⟩ o).all (λ x=>k x.1)):(Ka P ⟨env,h',n⟩ o).all (λ x=>x.2=h'/\k x.1):=by
 have val:∀{op:Op},JW P ⟨env,h',n⟩ op=JW P ⟨env,h,n⟩ op->((JW P ⟨env,h,n⟩ op).bind λ d=> .ret True (d,h)).all (λ x=>k x.1)->((JW P ⟨env,h',n⟩ op).bind λ d=> .ret True (d,h')).all (λ x=>x.2=h'/\k x.1):=λ e hv=>by
   rw[e];exact Rs.CF (Rs.Ce (λ d hd=>⟨hd.1,rfl,hd.2⟩) (Rs.all_bind hv))
 unfold Ka at*;generalize o.op=op at hv hh ⊢;cases op with
 | move _=>exact val rfl hh
 | assign _=>exact val rfl hh
 | binOp _ _ _ _ _=>exact val rfl hh
 | unOp _ _ _=>exact val rfl hh
 | extract _ _=>exact val rfl hh
 | _=>simp[V5] at hv
def QO(l:List Oper)(x:Nat×Nat):Prop:=(x.2=0/\∀o,l[x.1]?=some o->V5 o.op=false)∨x.2=2
theorem Ash{P:Program}{l:List Oper}{hR:Hp}{K:St->Prop}(hK:Sx K){j:Nat}{oj:Oper}(hj:l[j]?=some oj)(post:List (Nat×Nat)):∀(pre:List (Nat×Nat)) {st:St},Gp P l hR (pre++(j,4)::post) K st->
   (∀x∈pre,x.2=0/\∃oi,l[x.1]?=some oi/\NW oi.op=true/\Ap l oi oj)->
   FN st l oj.guard (Ys P oj (Gp P l hR (pre++post) K) st) (Gp P l hR (pre++post) K (st.put oj.dst (.Dg [])))
 | [],st,h,_=>by
   simp only[Bh,Gp,hj] at h;exact h
 | (i,ki)::pre,st,h,hp=>by
   obtain ⟨hk,oi,ho,hv,XF⟩:=hp (i,ki) (by simp);obtain ⟨e,d,he,hf,hg,G6,_⟩:=eff ho (.inl hk) (λ _=>hv) h;obtain rfl:e=[]:=by
     rcases he with h1 | ⟨h1,_⟩
     . exact h1
     . simp only at hk;rw[hk] at h1;cases h1
   have ih:=Ash hK hj post pre hg (λ x hx=>hp x (by simp[hx]));have hlk:Looks l oj st (({st with hp:=[]++st.hp}:St).put oi.dst d):=FF XF.a;have go:∀(y:Hp) (x:D),Gp P l hR (pre++post) K ((({st with hp:=y}:St).put oi.dst d).put oj.dst x)->Gp P l hR ((i,ki)::(pre++post)) K (({st with hp:=y}:St).put oj.dst x):=by
     intro y x hx;refine G6 _ _ _ (FF (h:=y) XF.c) (λ z hz=>by cases hz) (Ib hK _ _ _ ?_ hx);have h2:KT ((({st with hp:=y}:St).put oi.dst d).put oj.dst x) ((({st with hp:=y}:St).put oj.dst x).put oi.dst d):=KT.swap XF.b;refine h2.trans ?_;refine ⟨by simp only[Jh],λ q=>by simp only[Hy,Jh],λ id=>by simp only[Dn,Bh]⟩
   refine Dy hlk.2.symm (λ hy=>?_) (λ hn=>?_) ih
   . refine MU (λ x hx=>(hlk.1 x hx).symm) (by rw[Dn];rfl) (λ y x hk=>?_) hy;refine go y x (Ib hK _ _ _ ?_ hk);refine ⟨by simp only[Jh],λ q=>by simp only[Hy,Jh],λ id=>by simp only[Dn]⟩
   . exact go st.hp (.Dg []) (Ib hK _ _ _ ⟨by simp only[Jh],λ q=>by simp only[Hy,Jh,Bh],λ id=>by simp only[Dn,Bh]⟩ hn)
def WV(l:List Oper):Nat->Nat->Nat->Bool
 | 0,_,_=>false
 | f+1,i,j=>match l[j]? with
   | some oj=>oj.after.toList.any λ e=>Region.binds .any e&&(e.on==i||WV l f i e.on)
   | none=>false
def RO(l:List Oper)(n:Nat)(x y:Nat×Nat):Bool:=
 match l[x.1]?,l[y.1]? with
 | some ox,some oy=>!waits ox y.1&&
   (if y.2=4 then WV l n x.1 y.1||(decide (x.2=0)&&V5 ox.op&&NW ox.op&&Oper.apart l.toArray ox oy) else if x.2<=1 then (waits oy x.1||(Oper.apart l.toArray ox oy&&(x.2 != 1||(ox.dst.getD 0 != oy.dst.getD 0&&decide (ox.dst.getD 0<10000)))))&&(!(y.2==3&&x.2==0)||WV l n x.1 y.1)
    else WV l n x.1 y.1&&!((x.2==3||x.2==4)&&(y.2==0||y.2==2)))
 | _,_=>false
def opB(l:List Oper)(x:Nat×Nat):Bool:=
 match l[x.1]? with
 | some o=>(match x.2 with
     | 0=>NW o.op
     | 1=>true
     | 2 | 3=>isQ o.op
     | 4=>true
     | _=>false)&&!waits o x.1&&o.after.toList.all λ e=>!Region.binds .any e||decide (e.on<l.length)
 | none=>false
def HU(l:List Oper)(n:Nat):List (Nat×Nat)->Bool
 | []=>true
 | x::r=>r.all (RO l n x)&&HU l n r
def Apx:List Nat->Bool
 | []=>true
 | x::r=>r.all (λ y=>x != y)&&Apx r
theorem VO:∀{l:List Nat},Apx l=true->l.Nodup
 | [],_=>List.nodup_nil
 | x::r,h=>by
   simp only[Apx,Ao] at h;refine List.nodup_cons.2 ⟨λ hm=>?_,VO h.2⟩;have:=AB.1 h.1 x hm;simp at this
def Ac3(l:List Oper)(p:List (Nat×Nat)):Bool:=
 Apx (p.map (·.1))&&HU l l.length p&&p.all (opB l)&&p.length==l.length&&(List.range l.length).all λ i=>p.any λ x=>x.1==i
section
variable {P:Program} {l:List Oper} {hR:Hp}
theorem Ok{n:Nat}{y:Nat×Nat}{post:List (Nat×Nat)}:∀{pre:List (Nat×Nat)},HU l n (pre++y::post)=true->∀x∈pre,RO l n x y=true
 | [],_,x,hx=>by cases hx
 | z::pre,h,x,hx=>by
   simp only[AT,HU,Ao] at h;rcases AF.1 hx with rfl | hx
   . exact AB.1 h.1 y (by simp)
   . exact Ok h.2 x hx
theorem Ma{n:Nat}{y:Nat×Nat}{post:List (Nat×Nat)}:∀{pre:List (Nat×Nat)},HU l n (pre++y::post)=true->∀x∈post,RO l n y x=true
 | [],h,x,hx=>by
   simp only[Bh,HU,Ao] at h;exact AB.1 h.1 x hx
 | z::pre,h,x,hx=>by
   simp only[AT,HU,Ao] at h;exact Ma h.2 x hx
theorem RN{n:Nat}{y:Nat×Nat}{post:List (Nat×Nat)}:∀{pre:List (Nat×Nat)},HU l n (pre++y::post)=true->HU l n (pre++post)=true
 | [],h=>by
   simp only[Bh,HU,Ao] at h;exact h.2
 | z::pre,h=>by
   simp only[AT,HU,Ao] at h ⊢;refine ⟨AB.2 λ x hx=>?_,RN h.2⟩;refine AB.1 h.1 x ?_;rcases Av.1 hx with h1 | h1
   . exact BO _ h1
   . exact List.mem_append_right _ (List.mem_cons_of_mem _ h1)
def Down(l:List Oper)(listed:Array Bool):Prop:=∀k ok,l[k]?=some ok->listed.getD k false=true->∀e∈ok.after,Region.binds .any e=true->listed.getD e.on false=true
theorem LY{listed:Array Bool}(hd:Down l listed):∀(f i j:Nat) (oj:Oper),l[j]?=some oj->(∀e∈oj.after,Region.binds .any e=true->listed.getD e.on false=true)->WV l f i j=true->listed.getD i false=true
 | 0,i,j,oj,_,_,h=>by simp[WV] at h
 | f+1,i,j,oj,hj,DK,h=>by
   simp only[WV,hj,A4,Ao,BT,beq_iff_eq] at h;obtain ⟨e,he,hb,h1⟩:=h;have hl:=DK e (by simpa using he) hb;rcases h1 with rfl | h1
   . exact hl
   . cases hk:l[e.on]? with
     | none=>cases f<;>simp[WV,hk] at h1
     | some ok=>exact LY hd f i e.on ok hk (hd e.on ok hk hl) h1
theorem SM{o:Oper}{i:Nat}:waits o i=true↔∃e∈o.after,Region.binds .any e=true/\e.on=i:=by
 simp only[waits,A4,Ao,beq_iff_eq];constructor
 . rintro ⟨e,he,h1,h2⟩;exact ⟨e,by simpa using he,h1,h2⟩
 . rintro ⟨e,he,h1,h2⟩;exact ⟨e,by simpa using he,h1,h2⟩
theorem Wd{listed:Array Bool}{i:Nat}(h:listed.getD i true=false):listed.getD i false=false:=by
 rw[As] at*;cases hg:listed[i]? with
 | none=>rfl
 | some b=>rw[hg] at h;exact h
structure Inv(l:List Oper)(rest:List (Nat×Nat))(listed:Array Bool):Prop where
 iff:∀k,k<l.length->(listed.getD k true=false↔∃x∈rest,x.1=k)
 sz:listed.size=l.length
 down:Down l listed
 VK:HU l l.length rest=true
 ops:rest.all (opB l)=true
 len:∀x∈rest,x.1<l.length
theorem Avy{K:St->Prop}(hK:Sx K){c:Ctx}{Q:Exit->Act->World->Prop}(hQ:∀a w,Good c K a w->Q .normal a w):∀(fuel:Nat) {rest:List (Nat×Nat)} {listed:Array Bool} {st:St} {a:Act} {w:World} {F:Nat->Prop} {M:Nat->Mb},
   rest.length=fuel->(rest.map (·.1)).Nodup->Rel c st a w F M->Gp P l hR rest K st->((∃x∈rest,QO l x)->C8 st.hp hR)->Inv l rest listed->wpAny P .any l.toArray Q fuel listed a w:=by
 intro fuel
 induction fuel with
 | zero=>
   intro rest listed st a w F M hlen hnd hr hg hle hi;obtain rfl:rest=[]:=A1 hlen;refine ⟨?_,hQ _ _ ⟨st,F,M,hg,hr⟩⟩;refine List.eq_nil_iff_forall_not_mem.2 λ j hj=>?_;obtain ⟨h0,oj,hoj,_⟩:=mem_ready.1 hj;have Ct:j<l.length:=by have:=(Array.getElem?_eq_some_iff.1 hoj).1;simpa using this
   obtain ⟨x,hx,_⟩:=(hi.iff j Ct).1 h0;cases hx
 | succ fuel ih=>
   intro rest listed st a w F M hlen hnd hr hg hle hi;refine ⟨λ Bbm=>?_,λ j hj=>?_⟩
   . exfalso;cases rest with
     | nil=>cases hlen
     | cons x r=>
       have LW:x.1∈Region.ready .any l.toArray listed:=by
         have Ct:=hi.len x (by simp);refine mem_ready.2 ⟨(hi.iff x.1 Ct).2 ⟨x,by simp,rfl⟩,l[x.1],by simp[Ct],λ e he hb=>?_⟩;have KS:opB l x=true:=AB.1 hi.ops x (by simp);have hox:l[x.1]?=some l[x.1]:=Ax Ct;simp only[opB,hox,Ao,AB,BT,BS,Aq] at KS;have Ay6:=(KS.2 e (by simpa using he)).resolve_left (by rw[hb];simp);cases hle:listed.getD e.on true with
         | true=>
           rw[As] at hle ⊢;have:e.on<listed.size:=by rw[hi.sz];exact Ay6
           rw[A7 this] at hle ⊢;exact hle
         | false=>
           exfalso;obtain ⟨y,hy,hye⟩:=(hi.iff e.on Ay6).1 hle;have hw:waits l[x.1] y.1=true:=SM.2 ⟨e,he,hb,hye.symm⟩;rcases AF.1 hy with rfl | hy
           . rw[hw] at KS;simp at KS
           . have hp:=hi.VK;simp only[HU,Ao] at hp;have:=AB.1 hp.1 y hy;unfold RO at this;rw[hox] at this;split at this
             . rename_i ox oy h1 h2;cases h1;rw[hw] at this;simp at this
             . cases this
       rw[Bbm] at LW;cases LW
   . obtain ⟨h0,oj,hoj,DK⟩:=mem_ready.1 hj;have Ct:j<l.length:=by have:=(Array.getElem?_eq_some_iff.1 hoj).1;simpa using this
     have NH:l[j]?=some oj:=by simpa using hoj
     obtain ⟨x,hx,rfl⟩:=(hi.iff j Ct).1 h0;obtain ⟨j,kj⟩:=x;obtain ⟨pre,post,rfl⟩:=List.append_of_mem hx;simp only at hoj NH h0 DK Ct hj ⊢;have LN:∀x∈pre,x.2<=1/\∃oi,l[x.1]?=some oi/\(x.2=0->NW oi.op=true)/\Ap l oi oj/\(x.2=1->oi.dst.getD 0≠oj.dst.getD 0/\oi.dst.getD 0<10000)/\¬(kj=3/\x.2=0):=by
       intro x hx;have hp:=Ok hi.VK x hx;have Af2:x∈pre++(j,kj)::post:=by simp[hx]
       have Zm:=hi.len x Af2;have hun:listed.getD x.1 false=false:=Wd ((hi.iff x.1 Zm).2 ⟨x,Af2,rfl⟩);have hox:l[x.1]?=some l[x.1]:=Ax Zm;have KS:opB l x=true:=AB.1 hi.ops x Af2;have hnt:WV l l.length x.1 j≠true:=λ ht=>by
         have:=LY hi.down _ _ _ oj NH DK ht;rw[hun] at this;cases this
       have hnw:waits oj x.1≠true:=λ hw=>by
         obtain ⟨e,he,hb,hye⟩:=SM.1 hw;have:=DK e he hb;rw[hye,hun] at this;cases this
       unfold RO at hp;rw[hox,NH] at hp;simp only[Ao] at hp;obtain ⟨_,hp⟩:=hp;split at hp
       . rename_i h4;simp only[BT,Ao,Aq] at hp;rcases hp with hp | ⟨⟨⟨h1,h2⟩,h3⟩,h5⟩
         . exact (hnt hp).elim
         . obtain ⟨s1,s2,s3⟩:=Oper.apart_spec h5;exact ⟨by omega,l[x.1],hox,λ _=>h3,⟨s1,s2,s3⟩,λ h=>by omega,λ ⟨h,_⟩=>by omega⟩
       split at hp
       . rename_i Auw;simp only[Ao,BT] at hp;obtain ⟨hp1,La⟩:=hp;have hp1:=hp1.resolve_left hnw;obtain ⟨s1,s2,s3⟩:=Oper.apart_spec hp1.1;refine ⟨Auw,l[x.1],hox,λ hz=>?_,⟨s1,s2,s3⟩,λ h1=>?_,λ ⟨h3,hz⟩=>?_⟩
         . simp only[opB,hox,hz,Ao] at KS;exact KS.1.1
         . have:=hp1.2.resolve_left (by simp[h1])
           simpa using this
         . exact hnt (La.resolve_left (by simp[h3,hz]))
       . simp only[Ao] at hp;exact (hnt hp.1).elim
     have PC:opB l (j,kj)=true:=AB.1 hi.ops _ (by simp);have Axu:((pre++post).map (·.1)).Nodup/\∀x∈pre++post,x.1≠j:=by
       rw[Be,AD] at hnd;obtain ⟨h1,h2,h3⟩:=Bt.1 hnd;obtain ⟨h4,h5⟩:=List.nodup_cons.1 h2;refine ⟨?_,λ x hx e=>?_⟩
       . rw[Be];exact Bt.2 ⟨h1,h5,λ a ha b hb=>h3 a ha b (List.mem_cons_of_mem _ hb)⟩
       . rcases Av.1 hx with h6 | h6
         . exact h3 x.1 (List.mem_map_of_mem h6) j (by simp) e
         . exact h4 (by simp only;rw[<-e];exact List.mem_map_of_mem h6)
     have TS:Inv l (pre++post) (listed.setIfInBounds j true):=by
       refine ⟨λ k hk=>?_,by simp[hi.sz],?_,RN hi.VK,?_,λ x hx=>hi.len x (by rcases Av.1 hx with h | h<;>simp[h])⟩
       . by_cases e:j=k
         . subst e;have:(listed.setIfInBounds j true).getD j true=true:=by
             rw[As,Array.getElem?_setIfInBounds];simp[hi.sz,Ct]
           rw[this];refine ⟨λ h=>(by cases h),λ ⟨x,hx,hxe⟩=>(Axu.2 x hx hxe).elim⟩
         . rw[getD_set_ne true e,hi.iff k hk];constructor
           . rintro ⟨x,hx,hxe⟩;rcases Av.1 hx with h | h
             . exact ⟨x,BO _ h,hxe⟩
             . rcases AF.1 h with rfl | h
               . exact (e hxe).elim
               . exact ⟨x,List.mem_append_right _ h,hxe⟩
           . rintro ⟨x,hx,hxe⟩;exact ⟨x,by rcases Av.1 hx with h | h<;>simp[h],hxe⟩
       . intro k ok hk TR e he hb;by_cases ee:j=k
         . subst ee;rw[NH] at hk;cases hk;exact getD_set_true (DK e he hb)
         . rw[getD_set_ne false ee] at TR;exact getD_set_true (hi.down k ok hk TR e he hb)
       . refine AB.2 λ x hx=>AB.1 hi.ops x ?_;rcases Av.1 hx with h | h<;>simp[h]
     have Axy:(pre++post).length=fuel:=by simp at hlen ⊢;omega
     have next:∀{s a' w' F' M'},Rel c s a' w' F' M'->Gp P l hR (pre++post) K s->((∃x∈pre++post,QO l x)->C8 s.hp hR)->wpAny P .any l.toArray Q fuel (listed.setIfInBounds j true) a' w':=
       λ Kd hg' Axz=>ih Axy Axu.1 Kd hg' Axz TS
     have Iy:(∃x∈pre++post,QO l x)->C8 st.hp hR:=λ ⟨x,hx,h2⟩=>hle ⟨x,by rcases Av.1 hx with h | h<;>simp[h],h2⟩;have main:FN st l oj.guard (Ys P oj (λ s=>((∃x∈pre++post,QO l x)->C8 s.hp hR)/\Gp P l hR (pre++post) K s) st) (Gp P l hR (pre++post) K (st.put oj.dst (.Dg []))):=by
       have two:∀x∈pre,x.2=0∨x.2=1:=λ x hx=>by have:=(LN x hx).1;omega
       match kj,hg,hle,LN,PC,hi with
       | 0,hg,hle,LN,PC,hi=>
         have h1:=Asi hK NH post pre hg (λ x hx=>⟨two x hx,by obtain ⟨_,oi,h1,h2,h3,_⟩:=LN x hx;exact ⟨oi,h1,h2,h3⟩⟩);have hv:NW oj.op=true:=by simp only[opB,NH,Ao] at PC;exact PC.1.1
         refine Dy rfl (λ hy=>?_) id h1;have h2:(Ka P st oj).all (λ x=>x.2=st.hp/\Gp P l hR (pre++post) K (st.put oj.dst x.1)):=by
           by_cases hls:V5 oj.op=true
           . exact Ahb (k:=λ d=>Gp P l hR (pre++post) K (st.put oj.dst d)) hls hy
           . have hl:=hle ⟨(j,0),by simp,.inl ⟨rfl,λ o ho=>by rw[NH] at ho;cases ho;simpa using hls⟩⟩;exact doV (k:=λ d=>Gp P l hR (pre++post) K (st.put oj.dst d)) hl.hx hv hy
         exact .inl <| Qp (Zf hv) (Rs.Ce (λ x hx=>by
           obtain ⟨e1,e2⟩:=hx;rw[e1];exact ⟨λ hh=>by rw[Dn];exact Iy hh,e2⟩) h2)
       | 1,hg,hle,LN,PC,hi=>
         have h1:=Asj hK NH post pre hg (λ x hx=>⟨two x hx,by obtain ⟨_,oi,h1,h2,h3,h4,_⟩:=LN x hx;exact ⟨oi,h1,h2,h3,λ e=>(h4 e).1⟩⟩);refine Dy rfl (λ hy=>?_) id h1;obtain ⟨x,hx,hb⟩:=Rs.leaf hy;obtain ⟨h2,h3,h4⟩:=WJ (K:=λ s=>((∃x∈pre++post,QO l x)->C8 s.hp hR)/\Gp P l hR (pre++post) K s) (Rs.Ce (λ y hy=>⟨hy.1,λ hh=>by
           rw[Dn];exact C8.app (.inr ⟨_,rfl⟩) (λ z hz=>by simp only[Aw] at hz;subst hz;exact hy.1) (Iy hh),hy.2⟩) hy)
         exact .inl <| Qp h2 (by rw[h3];exact h4)
       | 2,hg,hle,LN,PC,hi=>
         have hq:isQ oj.op=true:=by simp only[opB,NH,Ao] at PC;exact PC.1.1
         have h1:=Ajn hK NH (.inl rfl) hq post pre hr hg (λ _=>hle ⟨(j,2),by simp,.inr rfl⟩) (λ x hx=>⟨two x hx,by obtain ⟨_,oi,h1,h2,h3,h4,_⟩:=LN x hx;exact ⟨oi,h1,h2,h3,h4⟩⟩);exact Dy rfl (λ hy=>Hg (λ s hs=>⟨λ _=>hs.1 rfl,hs.2⟩) hy) id h1
       | 3,hg,hle,LN,PC,hi=>
         have hq:isQ oj.op=true:=by simp only[opB,NH,Ao] at PC;exact PC.1.1
         have LV:∀x∈pre++post,¬(x.2=0∨x.2=2):=by
           intro x hx h2;rcases Av.1 hx with h | h
           . obtain ⟨h3,oi,_,_,_,_,h4⟩:=LN x h;rcases h2 with h2 | h2
             . exact h4 ⟨rfl,h2⟩
             . omega
           . have hp:=Ma hi.VK x h;unfold RO at hp;split at hp
             . rw[if_neg (by omega),if_neg (by simp)] at hp;rcases h2 with h2 | h2<;>simp[h2] at hp
             . cases hp
         have h1:=Ajn hK NH (.inr rfl) hq post pre hr hg (λ hh=>by
           rcases hh with h | ⟨x,hx,h2⟩
           . cases h
           . exact (LV x (BO _ hx) (.inl h2)).elim) (λ x hx=>⟨two x hx,by obtain ⟨_,oi,h1,h2,h3,h4,_⟩:=LN x hx;exact ⟨oi,h1,h2,h3,h4⟩⟩)
         exact Dy rfl (λ hy=>Hg (λ s hs=>⟨λ ⟨x,hx,h2⟩=>(LV x hx (h2.imp And.left id)).elim,hs.2⟩) hy) id h1
       | 4,hg,hle,LN,PC,hi=>
         have OW:∀x∈pre,x.2=0/\∃oi,l[x.1]?=some oi/\NW oi.op=true/\Ap l oi oj/\V5 oi.op=true:=by
           intro x hx;have hp:=Ok hi.VK x hx;have Af2:x∈pre++(j,4)::post:=by simp[hx]
           have Zm:=hi.len x Af2;have hun:listed.getD x.1 false=false:=Wd ((hi.iff x.1 Zm).2 ⟨x,Af2,rfl⟩);have hox:l[x.1]?=some l[x.1]:=Ax Zm;unfold RO at hp;rw[hox,NH] at hp;simp only[AM,Ao,BT,Aq] at hp;rcases hp.2 with h | ⟨⟨⟨h1,h2⟩,h3⟩,h5⟩
           . have:=LY hi.down _ _ _ oj NH DK h;rw[hun] at this;cases this
           . obtain ⟨s1,s2,s3⟩:=Oper.apart_spec h5;exact ⟨h1,l[x.1],hox,h3,⟨s1,s2,s3⟩,h2⟩
         have LV:∀x∈pre++post,¬QO l x:=by
           intro x hx h2;rcases Av.1 hx with h | h
           . obtain ⟨g1,oi,g2,_,_,g3⟩:=OW x h;rcases h2 with ⟨_,h2⟩ | h2
             . have:=h2 oi g2;rw[g3] at this;cases this
             . omega
           . have hp:=Ma hi.VK x h;unfold RO at hp;split at hp
             . rename_i ox oy e1 e2;by_cases h4:x.2=4
               . rcases h2 with ⟨h2,_⟩ | h2<;>omega
               . rw[if_neg h4,if_neg (by simp)] at hp;rcases h2 with ⟨h2,_⟩ | h2<;>simp[h2] at hp
             . cases hp
         have h1:=Ash hK NH post pre hg (λ x hx=>by obtain ⟨g1,oi,g2,g3,g4,_⟩:=OW x hx;exact ⟨g1,oi,g2,g3,g4⟩);exact Dy rfl (λ hy=>Hg (λ s hs=>⟨λ ⟨x,hx,h2⟩=>(LV x hx h2).elim,hs⟩) hy) id h1
       | kj+5,hg,hle,LN,PC,hi=>simp[opB,NH] at PC
     unfold wpOp;rw[hoj];simp only;have Qj:=R0 (ops:=l.toArray) hr main;rcases Qj with ⟨hw,hy⟩ | ⟨hw,hn⟩
     . rw[if_pos hw];refine .inl (Oper.wp_mono (λ a' w' hgd=>?_) (Ad5 hr hy Q));obtain ⟨s,F',M',⟨h1,h2⟩,Kd⟩:=hgd;exact next Kd h2 h1
     . rw[if_neg (by rw[hw];simp)];exact next (hr.put (.Dg [] #[] rfl (λ i d hd=>by simp at hd)) oj.dst) hn (λ hh=>by rw[Dn];exact Iy hh)
end
end Go.Am
namespace Go.Am
open Go
section
variable {P:Program} {l:List Oper} {hR:Hp}
theorem Nx{K K':St->Prop}(hK:∀s,K s->K' s):∀(r:List (Nat×Nat)) {st:St},Gp P l hR r K st->Gp P l hR r K' st
 | [],st,h=>hK _ h
 | (i,kd)::r,st,h=>by
   simp only[Gp] at h ⊢;split at h
   . exact h.elim
   . rename_i o ho;(try simp only[ho]);refine Dy rfl (λ hy=>?_) (λ hn=>Nx hK r hn) h;split at hy
     . exact Rs.Ce (λ x hx=>Nx hK r hx) hy
     . exact Rs.Ce (λ x hx=>⟨hx.1,Nx hK r hx.2⟩) hy
     . exact Hg (λ s hs=>⟨hs.1,Nx hK r hs.2⟩) hy
     . exact Hg (λ s hs=>Nx hK r hs) hy
def wDg(P:Program)(o:Oper)(K:St->Prop)(st:St):Prop:=
 match De o.op with
 | some (f,args)=>(Hb st f args).JD (Uz P o K st) λ x=>Ll (Uz P o K st) P x.2.2 x.1 x.2.1 (o.dst.getD 0) λ d h'=>K (({st with hp:=h'}:St).put o.dst d)
 | none=>(Ka P st o).all λ x=>K (({st with hp:=x.2}:St).put o.dst x.1)
theorem Rs.MR{α:Type}{S T:Prop}{k k':α->Prop}(hk:∀x,k x->k' x∨T)(hS:S->T):∀{r:Rs α},r.JD S k->r.all k'∨T
 | .fail,h=> .inr (hS h)
 | .ret p x,h=>(hk x h.2).elim (λ h2=> .inl ⟨h.1,h2⟩) .inr
 | .split b x y,h=>by
   cases b
   . exact (Rs.MR hk hS (h.2 rfl)).elim (λ h2=> .inl ⟨λ e=>(AI e).elim,λ _=>h2⟩) .inr
   . exact (Rs.MR hk hS (h.1 rfl)).elim (λ h2=> .inl ⟨λ _=>h2,λ e=>(AI e.symm).elim⟩) .inr
theorem Asb{o:Oper}{K:St->Prop}{st:St}(h:wDg P o K st):Ys P o K st:=by
 unfold wDg at h;unfold Ys Qr;split at h
 . rename_i f args hc;(try simp only[hc]);refine (Rs.MR (k':=λ x:FuncId×List D×Hp=>HL P x.2.2 x.1 x.2.1 (o.dst.getD 0) λ d h'=>K (({st with hp:=h'}:St).put o.dst d)) (λ x hx=>Rr hx) id h).imp (λ h2=>?_) id;exact Rs.Fg (Rs.Ce (λ x hx=>WC hx) h2)
 . rename_i hc;(try simp only[hc]);exact .inl (Rs.Fg h)
def Gw(P:Program)(l:List Oper)(hR:Hp):List (Nat×Nat)->(St->Prop)->St->Prop
 | [],K,st=>K st
 | (i,kd)::r,K,st=>match l[i]? with
   | none=>False
   | some o=>FN st l o.guard (match kd with
     | 0=>(Ka P {st with hp:=hR} o).all λ x=>Gw P l hR r K (st.put o.dst x.1)
     | 1=>(ID P st (o.dst.getD 0) o.op).all λ x=>get st.hp (o.dst.getD 0)=none/\Gw P l hR r K (({st with hp:=(o.dst.getD 0,x.2)::st.hp}:St).put o.dst x.1)
     | 2=>wDg P o (λ s=>C8 s.hp hR/\Gw P l hR r K s) st
     | _=>wDg P o (Gw P l hR r K) st) (Gw P l hR r K (st.put o.dst (.Dg [])))
theorem WN{K:St->Prop}:∀(r:List (Nat×Nat)) {st:St},Gw P l hR r K st->Gp P l hR r K st
 | [],st,h=>h
 | (i,kd)::r,st,h=>by
   simp only[Gw] at h;simp only[Gp];split at h
   . exact h.elim
   . rename_i o ho;(try simp only[ho]);refine Dy rfl (λ hy=>?_) (λ hn=>WN r hn) h
     match kd,hy with
     | 0,hy=>exact Rs.Ce (λ x hx=>WN r hx) hy
     | 1,hy=>exact Rs.Ce (λ x hx=>⟨hx.1,WN r hx.2⟩) hy
     | 2,hy=>exact Hg (λ s hs=>⟨hs.1,WN r hs.2⟩) (Asb hy)
     | kd+3,hy=>exact Hg (λ s hs=>WN r hs) (Asb hy)
def G(P:Program)(l:List Oper)(hR:Hp)(r:List (Nat×Nat))(k:Kt)(st:St):Prop:=Gw P l hR r (k.Fi P .normal) st
theorem Ae1{p:List (Nat×Nat)}(h:Ac3 l p=true):(p.map (·.1)).Nodup/\p.length=l.length/\Inv l p (Array.replicate l.length false):=by
 simp only[Ac3,Ao,beq_iff_eq] at h;obtain ⟨⟨⟨⟨h0,h1⟩,h2⟩,h3⟩,h4⟩:=h;have hlen:∀x∈p,x.1<l.length:=by
   intro x hx;have:=AB.1 h2 x hx;unfold opB at this;split at this
   . rename_i o ho;exact (An.1 ho).1
   . cases this
 have Iy:List.range l.length ⊆ p.map (·.1):=by
   intro i hi;have:=AB.1 h4 i hi;obtain ⟨x,hx,hxi⟩:=A4.1 this;exact List.mem_map.2 ⟨x,hx,by simpa using hxi⟩
 have hnd:=VO h0;refine ⟨hnd,h3,⟨λ k hk=>?_,by simp,λ k ok hk hl=>?_,h1,h2,hlen⟩⟩
 . rw[As,Array.getElem?_replicate,if_pos hk];refine ⟨λ _=>?_,λ _=>rfl⟩;obtain ⟨x,hx,hxi⟩:=AP.1 (Iy (List.mem_range.2 hk));exact ⟨x,hx,hxi⟩
 . exfalso;rw[As,Array.getElem?_replicate] at hl;split at hl<;>simp at hl
theorem Dm{id:Nat}{p:List (Nat×Nat)}{k:Kt}{st:St}(hR:Hp)(hm:P.follows .mixedOrders=true)(hB:Ac3 l p=true)(hle:C8 st.hp hR)(h:G P l hR p k st):X P (.region id l.toArray true) k st:=by
 refine .inr ⟨rfl,λ c a w F M hr=>?_⟩;obtain ⟨hnd,hl,hi⟩:=Ae1 hB;refine wp_region_any hm ?_;have Ht:Rel c st a {w with drawn:=w.drawn+1} F M:=hr.drew;have:=Avy (P:=P) (l:=l) (hR:=hR) (Sx.of (k.Fi P .normal)) (c:=c) (Q:=QC c (k.Fi P)) (λ a w ⟨s,F,M,⟨s',he,hk⟩,hr⟩=>⟨s',F,M,hk,hr.eqv he⟩) l.length hl hnd Ht
   (Nx (λ s hs=>⟨s,KT.refl s,hs⟩) p (WN p h)) (λ _=>hle) hi
 simpa using this
end
def Hd(kd:Nat)(h hR:Hp):Prop:=match kd with
 | 2=>C8 h hR
 | _=>True
theorem Avv(h hR:Hp):Hd 2 h hR=C8 h hR:=nd rfl
theorem Aoq(h hR:Hp):Hd 3 h hR=True:=nd rfl
def Gf(P:Program)(l:List Oper)(hR:Hp)(r:List (Nat×Nat))(k:Kt)(o:Oper)(st:St)(x:Rs (D×Hp)):Prop:=x.all λ x=>G P l hR r k (st.put o.dst x.1)
def Ga(P:Program)(l:List Oper)(hR:Hp)(r:List (Nat×Nat))(k:Kt)(o:Oper)(st:St)(x:Rs (D×AO)):Prop:=
 x.all λ x=>get st.hp (o.dst.getD 0)=none/\G P l hR r k (({st with hp:=(o.dst.getD 0,x.2)::st.hp}:St).put o.dst x.1)
def Gs(P:Program)(l:List Oper)(hR:Hp)(r:List (Nat×Nat))(k:Kt)(kd:Nat)(o:Oper)(st:St)(x:Rs (D×Hp)):Prop:=
 x.all λ x=>Hd kd x.2 hR/\G P l hR r k (({st with hp:=x.2}:St).put o.dst x.1)
def Bq(P:Program)(l:List Oper)(hR:Hp)(r:List (Nat×Nat))(k:Kt)(kd:Nat)(o:Oper)(st:St):Prop:=Uz P o (λ s=>Hd kd s.hp hR/\G P l hR r k s) st
def Gc(P:Program)(l:List Oper)(hR:Hp)(r:List (Nat×Nat))(k:Kt)(kd:Nat)(o:Oper)(st:St)(x:Rs (FuncId×List D×Hp)):Prop:=
 x.JD (Bq P l hR r k kd o st) λ x=>Ll (Bq P l hR r k kd o st) P x.2.2 x.1 x.2.1 (o.dst.getD 0) λ d h'=>Hd kd h' hR/\G P l hR r k (({st with hp:=h'}:St).put o.dst d)
def Gk(P:Program)(l:List Oper)(hR:Hp)(r:List (Nat×Nat))(k:Kt)(kd:Nat)(dst:Option Nat)(st:St)(f:FuncId)(ds:List D)(h:Hp)(T:List Nat)(S:Prop):Prop:=
 (BZ P f (HD (idx T base) ds) (sub h (idx T base) base T) λ h' x=>fresh (dst.getD 0) h h'/\Hd kd (merge T (dst.getD 0) h h') hR/\G P l hR r k (({st with hp:=merge T (dst.getD 0) h h'}:St).put dst (x.Ef (back T (dst.getD 0)))))∨S
def Ge(P:Program)(l:List Oper)(hR:Hp)(r:List (Nat×Nat))(k:Kt)(o:Oper)(st:St):Nat->Prop
 | 0=>Gf P l hR r k o st (Ka P {st with hp:=hR} o)
 | 1=>Ga P l hR r k o st (ID P st (o.dst.getD 0) o.op)
 | 2=>match De o.op with
   | some (f,args)=>Gc P l hR r k 2 o st (Hb st f args)
   | none=>Gs P l hR r k 2 o st (Ka P st o)
 | _=>match De o.op with
   | some (f,args)=>Gc P l hR r k 3 o st (Hb st f args)
   | none=>Gs P l hR r k 3 o st (Ka P st o)
def Gd(P:Program)(l:List Oper)(hR:Hp)(r:List (Nat×Nat))(k:Kt)(kd:Nat)(o:Oper)(st:St):Gv->Prop
 | .yes=>Ge P l hR r k o st kd
 | .no=>G P l hR r k (st.put o.dst (.Dg []))
 | .cond b=>WM b (Ge P l hR r k o st kd) (G P l hR r k (st.put o.dst (.Dg [])))
 | .bad=>False
def Gg(P:Program)(l:List Oper)(hR:Hp)(r:List (Nat×Nat))(k:Kt)(kd:Nat)(st:St):Option Oper->Prop
 | none=>False
 | some o=>Gd P l hR r k kd o st (J7 st l o.guard)
section
variable {P:Program} {l:List Oper} {hR:Hp} {r:List (Nat×Nat)} {k:Kt} {o:Oper} {st:St} {kd:Nat} {b:Bool} {dst:Option Nat}
theorem Yu{f:Operand}{args:List Operand}{K:St->Prop}(hc:De o.op=some (f,args)):wDg P o K st=(Hb st f args).JD (Uz P o K st) λ x=>Ll (Uz P o K st) P x.2.2 x.1 x.2.1 (o.dst.getD 0) λ d h'=>K (({st with hp:=h'}:St).put o.dst d):=by
 unfold wDg;rw[hc]
theorem Yt{K:St->Prop}(hc:De o.op=none):wDg P o K st=(Ka P st o).all λ x=>K (({st with hp:=x.2}:St).put o.dst x.1):=by
 unfold wDg;rw[hc]
theorem Azd:G P l hR [] k st=J P k .normal st:=nd rfl
theorem Aw5(i:Nat):G P l hR ((i,kd)::r) k st=Gg P l hR r k kd st l[i]?:=by
 unfold G;simp only[Gw];cases l[i]? with
 | none=>rfl
 | some o=>
   simp only[Gg];rw[G7];have e:(match kd with
     | 0=>(Ka P {st with hp:=hR} o).all λ x=>Gw P l hR r (k.Fi P .normal) (st.put o.dst x.1)
     | 1=>(ID P st (o.dst.getD 0) o.op).all λ x=>get st.hp (o.dst.getD 0)=none/\Gw P l hR r (k.Fi P .normal) (({st with hp:=(o.dst.getD 0,x.2)::st.hp}:St).put o.dst x.1)
     | 2=>wDg P o (λ s=>C8 s.hp hR/\Gw P l hR r (k.Fi P .normal) s) st
     | _=>wDg P o (Gw P l hR r (k.Fi P .normal)) st)=Ge P l hR r k o st kd:=by
     match kd with
     | 0=>rfl
     | 1=>rfl
     | 2=>
       simp only[Ge];cases hc:De o.op with
       | none=>simp only[Yt hc,Dn];rfl
       | some x=>obtain ⟨f,args⟩:=x;simp only[Yu hc,Gc,Bq,Hd,Dn];rfl
     | kd+3=>
       simp only[Ge];cases hc:De o.op with
       | none=>simp only[Yt hc,Gs,Hd,true_and];rfl
       | some x=>obtain ⟨f,args⟩:=x;simp only[Yu hc,Gc,Bq,Hd,true_and];rfl
   cases J7 st l o.guard with
   | yes=>exact e
   | no=>rfl
   | bad=>rfl
   | cond b=>exact AR (λ x=>WM b x (Gw P l hR r (k.Fi P .normal) (st.put o.dst (.Dg [])))) e
theorem As1:Gg P l hR r k kd st (some o)=Gd P l hR r k kd o st (J7 st l o.guard):=nd rfl
theorem Aw2:Gd P l hR r k kd o st .yes=Ge P l hR r k o st kd:=nd rfl
theorem Azc:Gd P l hR r k kd o st .no=G P l hR r k (st.put o.dst (.Dg [])):=nd rfl
theorem As5:Gd P l hR r k kd o st (.cond true)=Ge P l hR r k o st kd:=by simp[Gd]
theorem Aou:Gd P l hR r k kd o st (.cond false)=G P l hR r k (st.put o.dst (.Dg [])):=by simp[Gd]
theorem As3:Ge P l hR r k o st 0=Gf P l hR r k o st (Ka P {st with hp:=hR} o):=nd rfl
theorem Aw1:Ge P l hR r k o st 1=Ga P l hR r k o st (ID P st (o.dst.getD 0) o.op):=nd rfl
theorem Aw0:Ge P l hR r k o st 2=match De o.op with
   | some (f,args)=>Gc P l hR r k 2 o st (Hb st f args)
   | none=>Gs P l hR r k 2 o st (Ka P st o):=nd rfl
theorem Aot:Ge P l hR r k o st 3=match De o.op with
   | some (f,args)=>Gc P l hR r k 3 o st (Hb st f args)
   | none=>Gs P l hR r k 3 o st (Ka P st o):=nd rfl
theorem As4:Ge P l hR r k o st 4=match De o.op with
   | some (f,args)=>Gc P l hR r k 3 o st (Hb st f args)
   | none=>Gs P l hR r k 3 o st (Ka P st o):=nd rfl
theorem Avz(p:Prop)(d:D)(h:Hp):Gf P l hR r k o st (.ret p (d,h))=(p/\G P l hR r k (st.put o.dst d)):=nd rfl
theorem As2(x y:Rs (D×Hp)):Gf P l hR r k o st (.split true x y)=Gf P l hR r k o st x:=by simp[Gf,Rs.all]
theorem Aos(x y:Rs (D×Hp)):Gf P l hR r k o st (.split false x y)=Gf P l hR r k o st y:=by simp[Gf,Rs.all]
theorem Aw4(p:Prop)(d:D)(ao:AO):Ga P l hR r k o st (.ret p (d,ao))=(p/\get st.hp (o.dst.getD 0)=none/\G P l hR r k (({st with hp:=(o.dst.getD 0,ao)::st.hp}:St).put o.dst d)):=nd rfl
theorem Avx(p:Prop)(d:D)(h:Hp):Gs P l hR r k kd o st (.ret p (d,h))=(p/\Hd kd h hR/\G P l hR r k (({st with hp:=h}:St).put o.dst d)):=nd rfl
theorem Aw3(p:Prop)(f:FuncId)(ds:List D)(h:Hp):Gc P l hR r k kd o st (.ret p (f,ds,h))=
   (p/\(DL h (Da ds)).Nodup/\((DL h (Da ds)).all λ id=>(get h id).isSome)=true/\Gk P l hR r k kd o.dst st f ds h (DL h (Da ds)) (Bq P l hR r k kd o st)):=nd rfl
end
def Cc(P:Program)(s:Bool)(ops rest:List Oper)(k:Kt)(dst:Option Nat)(st:St)(h:Hp)(T:List Nat)(f:FuncId)(ds:List D)(hs:Hp)(S:Prop):Prop:=
 (BZ P f ds hs λ h' r=>fresh (dst.getD 0) h h'/\O P s ops rest k (({st with hp:=merge T (dst.getD 0) h h'}:St).put dst (r.Ef (back T (dst.getD 0)))))∨S
theorem Azg(P:Program)(s:Bool)(ops rest:List Oper)(k:Kt)(dst:Option Nat)(st:St)(f:FuncId)(ds:List D)(h:Hp)(T:List Nat)(S:Prop):
   Ck P s ops rest k dst st f ds h T S=Cc P s ops rest k dst st h T f (HD (idx T base) ds) (sub h (idx T base) base T) S:=nd rfl
theorem DF{P:Program}{s:Bool}{ops rest:List Oper}{k:Kt}{dst:Option Nat}{st:St}{h:Hp}{T:List Nat}{f:FuncId}{ds:List D}{hs:Hp}{S:Prop}{R:Hp->D->Prop}(hc:BZ P f ds hs R)
   (hk:∀h' r,R h' r->fresh (dst.getD 0) h h'/\O P s ops rest k (({st with hp:=merge T (dst.getD 0) h h'}:St).put dst (r.Ef (back T (dst.getD 0))))):Cc P s ops rest k dst st h T f ds hs S:= .inl (hc.mono hk)
def Kc(P:Program)(f:FuncId)(ds:List D)(hs h:Hp)(T:List Nat)(q:Nat)(k:D->Hp->Prop):Prop:=BZ P f ds hs λ h' r=>fresh q h h'/\k (r.Ef (back T q)) (merge T q h h')
theorem Ux{P:Program}{f:FuncId}{ds:List D}{hs h:Hp}{T:List Nat}{q:Nat}{k:D->Hp->Prop}{R:Hp->D->Prop}(hc:BZ P f ds hs R)
   (hk:∀h' r,R h' r->fresh q h h'/\k (r.Ef (back T q)) (merge T q h h')):Kc P f ds hs h T q k:=hc.mono hk
theorem JB(P:Program)(h:Hp)(f:FuncId)(ds:List D)(q:Nat)(k:D->Hp->Prop):
   HL P h f ds q k=((DL h (Da ds)).Nodup/\((DL h (Da ds)).all λ id=>(get h id).isSome)=true/\
     Kc P f (HD (idx (DL h (Da ds)) base) ds) (sub h (idx (DL h (Da ds)) base) base (DL h (Da ds))) h (DL h (Da ds)) q k):=nd rfl
theorem OQ{P:Program}{ops rest:List Oper}{k:Kt}{dst:Option Nat}{st:St}{h:Hp}{T:List Nat}{f:FuncId}{ds:List D}{hs:Hp}{o:Oper}{fo:Operand}{args:List Operand}{g:FuncId}{cap:List D}
   (hc:De o.op=some (fo,args)) (hg:ev st fo= .fn g cap) (hk:HL P st.hp g (args.map (ev st)++cap) (o.dst.getD 0) λ d h'=>O P true ops rest k (({st with hp:=h'}:St).put o.dst d)):
   Cc P true ops rest k dst st h T f ds hs (Sm P true ops rest k o st):=by
 refine .inr ⟨rfl,λ c a w F M Q hr=>?_⟩;exact Ae6 hr hc hg hk Q
def Gh(P:Program)(l:List Oper)(hR:Hp)(r:List (Nat×Nat))(k:Kt)(kd:Nat)(dst:Option Nat)(st:St)(h:Hp)(T:List Nat)(f:FuncId)(ds:List D)(hs:Hp)(S:Prop):Prop:=
 (BZ P f ds hs λ h' x=>fresh (dst.getD 0) h h'/\Hd kd (merge T (dst.getD 0) h h') hR/\G P l hR r k (({st with hp:=merge T (dst.getD 0) h h'}:St).put dst (x.Ef (back T (dst.getD 0)))))∨S
theorem Azb(P:Program)(l:List Oper)(hR:Hp)(r:List (Nat×Nat))(k:Kt)(kd:Nat)(dst:Option Nat)(st:St)(f:FuncId)(ds:List D)(h:Hp)(T:List Nat)(S:Prop):
   Gk P l hR r k kd dst st f ds h T S=Gh P l hR r k kd dst st h T f (HD (idx T base) ds) (sub h (idx T base) base T) S:=nd rfl
theorem o5{P:Program}{l:List Oper}{hR:Hp}{r:List (Nat×Nat)}{k:Kt}{kd:Nat}{dst:Option Nat}{st:St}{h:Hp}{T:List Nat}{f:FuncId}{ds:List D}{hs:Hp}{S:Prop}{R:Hp->D->Prop}(hc:BZ P f ds hs R)
   (hk:∀h' x,R h' x->fresh (dst.getD 0) h h'/\Hd kd (merge T (dst.getD 0) h h') hR/\G P l hR r k (({st with hp:=merge T (dst.getD 0) h h'}:St).put dst (x.Ef (back T (dst.getD 0))))):Gh P l hR r k kd dst st h T f ds hs S:= .inl (hc.mono hk)
theorem Avq{P:Program}{ops rest:List Oper}{k:Kt}{st:St}{o:Oper}{fo:Operand}{args:List Operand}{g:FuncId}{cap ds:List D}{R:Hp->D->Prop}
   (ho:De o.op=some (fo,args)) (hg:ev st fo= .fn g cap) (hc:BZ P g ds [] R) (hb:KR st.hp (args.map (ev st)++cap) ds)
   (hk:∀h x,R h x->h=[]/\x.flat=true/\O P true ops rest k (st.put o.dst x)):Sm P true ops rest k o st:=
 ⟨rfl,λ c a w F M Q hr=>OR hr ⟨fo,args,g,cap,ds,ho,hg,hb,hc.mono λ h x hx=>by
   obtain ⟨h1,h2,h3⟩:=hk h x hx;exact ⟨h1,by rw[z8 h2];exact h3⟩⟩ Q⟩
theorem As7{P:Program}{ops rest:List Oper}{k:Kt}{dst:Option Nat}{st st':St}{h:Hp}{T:List Nat}{f':FuncId}{ds':List D}{hs:Hp}{o:Oper}{fo:Operand}{args:List Operand}{g:FuncId}{cap ds:List D}{R:Hp->D->Prop}
   (ho:De o.op=some (fo,args)) (hg:ev st fo= .fn g cap) (hc:BZ P g ds [] R) (hb:KR st.hp (args.map (ev st)++cap) ds)
   (hk:∀h x,R h x->h=[]/\O P true ops rest k (st.put o.dst x.HG)):Cc P true ops rest k dst st' h T f' ds' hs (Sm P true ops rest k o st):=
 .inr ⟨rfl,λ c a w F M Q hr=>OR hr ⟨fo,args,g,cap,ds,ho,hg,hb,hc.mono hk⟩ Q⟩
theorem Rz{P:Program}{ops rest:List Oper}{k:Kt}{dst:Option Nat}{st st':St}{h:Hp}{T:List Nat}{f':FuncId}{ds':List D}{hs:Hp}{o:Oper}{fo:Operand}{args:List Operand}{g:FuncId}{cap ds:List D}{R:Hp->D->Prop}
   (ho:De o.op=some (fo,args)) (hg:ev st fo= .fn g cap) (hc:BZ P g ds [] R) (hb:KR st.hp (args.map (ev st)++cap) ds)
   (hk:∀h x,R h x->h=[]/\x.flat=true/\O P true ops rest k (st.put o.dst x)):Cc P true ops rest k dst st' h T f' ds' hs (Sm P true ops rest k o st):= .inr (Avq ho hg hc hb hk)
attribute [go_sem] Rt Azg Azb base AO.Ef fresh merge back Oe pick List.filter_cons List.filter_nil List.mem_cons List.not_mem_nil or_false false_or or_true true_or List.nodup_cons List.contains_cons List.contains_nil Bool.or_false Bool.or_true Bool.false_or Bool.true_or
attribute [go_sem] Avv Aoq Azd Aw5 As1 Aw2 Azc As5 Aou As3 Aw1 Aw0 Aot As4 Avz As2 Aos D.HG Iv Pd.flat Aw4 Avx Aw3 ID FQ C8
end Go.Am
end
