/- Texts of this proof, what it rests on, merged: part C. -/
import Derived.ChangeArms
import Derived.ChangeSame
import Derived.OpenShut
import Derived.RowKit
import Derived.Test.YtjbklifaekjilaaGreatDoorSvB
section
set_option linter.unusedVariables false
set_option linter.unusedSimpArgs false
namespace Go.Am
open Go Go.ChangeShapes Go.RowKit
def Sf (P:Program):Nat→List Field→Option Nat
 | o,[]=>some o
 | o,f::r=>if f.offset=o then Sf P (o+P.cellsOf f.type) r else none
def CM (P:Program):Nat→TypeId→Bool
 | 0,_=>false
 | n+1,t=>match P.underlying t with
   | some .bool | some (.int _) | some .string=>true
   | some (.slice e)=>decide (0<P.cellsOf e)&&CM P n e
   | some (.struct fs)=>decide (Sf P 0 fs.toList=some (P.cellsOf t))&&fs.toList.all fun f=>CM P n f.type
   | some (.array m e)=>decide (m*P.cellsOf e=P.cellsOf t)&&CM P n e
   | _=>false
mutual
def B3 {H:Type}:DataW H→List Pd
  | .lit (.int k n)=>[.int k n]
  | .lit (.bool b)=>[.bool b]
  | .lit (.string l)=>[.str l]
  | .nil=>[.sl []]
  | .slice elems _=>[.sl (RR elems)]
  | .agg parts=>HA parts
  | _=>[]
def RR {H:Type}:List (DataW H)→List (List Pd)
  | []=>[]
  | d::r=>B3 d::RR r
def HA {H:Type}:List (DataW H)→List Pd
  | []=>[]
  | d::r=>B3 d++HA r
end
def Anj {H:Type} (d:DataW H):D:= .p ((B3 d).getD 0 (.bool false))
def PRl (F:Nat→Prop) (w:World) (xs:List Pd) (vs:List Value):Prop:=xs.length=vs.length∧∀(i:Nat) x,xs[i]?=some x→PR F w x (vs.getD i undef)
section
variable {H:Type} {enc:TypeId×Value→H} {P:Program} {w:World} {spare:Nat→Bool} {held:Bool}
theorem PRl.append {F:Nat→Prop} {xs ys:List Pd} {vs ws:List Value} (h:PRl F w xs vs) (h':PRl F w ys ws):PRl F w (xs++ys) (vs++ws):=by
 refine ⟨by simp[h.1,h'.1],fun i x hx=>?_⟩;rw[List.getElem?_append] at hx;rw[List.getD_eq_getElem?_getD,List.getElem?_append,←h.1];split at hx
 · rename_i hl;rw[if_pos hl];simpa [List.getD] using h.2 i x hx
 · rename_i hl;rw[if_neg hl];simpa [List.getD] using h'.2 _ x hx
theorem PRl.one {F:Nat→Prop} {x:Pd} {v:Value} (h:PR F w x v):PRl F w [x] [v]:=by
 refine ⟨rfl,fun i y hy=>?_⟩;cases i with
 | zero=>simp only[List.getElem?_cons_zero,Option.some.injEq] at hy;subst hy;exact h
 | succ i=>simp at hy
theorem NZ {F:Nat→Prop} {cs:List Value} {n:Nat} {m:Nat} (ih:∀t,CM P m t=true→∀cs x,DataW.trod enc P w 0 spare held n t cs=some x→PRl F w (B3 x.1) cs):
   ∀(fs:List Field) (xs:List (DataW H×List MemPlace)) (o tot:Nat),xs.length=fs.length→Sf P o fs=some tot→cs.length=tot→(fs.all fun f=>CM P m f.type)=true→
     (∀(i:Nat) (f:Field),fs[i]?=some f→DataW.trod enc P w 0 spare held n f.type ((cs.drop f.offset).take (P.cellsOf f.type))=xs[i]?)→PRl F w (HA (xs.map (·.1))) (cs.drop o)
 | [],xs,o,tot,hl,hc,Zz,_,_=>by
   have:xs=[]:=List.eq_nil_of_length_eq_zero hl;subst this;simp only[Sf,Option.some.injEq] at hc;subst hc;rw[List.drop_of_length_le (by omega)];exact ⟨rfl,fun i x hx=>by simp[HA] at hx⟩
 | f::r,xs,o,tot,hl,hc,Zz,hp,hx=>by
   cases xs with
   | nil=>simp at hl
   | cons x xs=>
     simp only[Sf] at hc;split at hc
     case isFalse=>cases hc
     rename_i ho;simp only[List.all_cons,Bool.and_eq_true] at hp;have h0:=hx 0 f rfl;simp only[List.getElem?_cons_zero] at h0;have h1:=ih f.type hp.1 _ _ h0;have h2:=NZ ih r xs (o+P.cellsOf f.type) tot (by simpa using hl) hc Zz hp.2 (fun i g hg=>by simpa using hx (i+1) g (by simpa using hg));have e:cs.drop o=(cs.drop f.offset).take (P.cellsOf f.type)++cs.drop (o+P.cellsOf f.type):=by
       rw[ho,←List.drop_drop,List.take_append_drop]
     rw[e];simp only[List.map_cons,HA];exact h1.append h2
theorem PX {F:Nat→Prop} {cs:List Value} {e:TypeId} {n k:Nat} (ih:∀cs x,DataW.trod enc P w 0 spare held n e cs=some x→PRl F w (B3 x.1) cs):
   ∀(xs:List (DataW H×List MemPlace)) (i0:Nat),cs.length=(i0+xs.length)*k→(∀i,i<xs.length→DataW.trod enc P w 0 spare held n e ((cs.drop ((i0+i)*k)).take k)=xs[i]?)→
     PRl F w (HA (xs.map (·.1))) (cs.drop (i0*k))
 | [],i0,hl,_=>by
   rw[List.drop_of_length_le (by simp at hl;omega)];exact ⟨rfl,fun i x hx=>by simp[HA] at hx⟩
 | x::xs,i0,hl,hx=>by
   have h0:=hx 0 (by simp);simp only[Nat.add_zero,List.getElem?_cons_zero] at h0;have h1:=ih _ _ h0;have h2:=PX ih xs (i0+1) (by rw[hl];simp only[List.length_cons];rw[show i0+(xs.length+1)=i0+1+xs.length by omega]) (fun i hi=>by
     have:=hx (i+1) (by simp only[List.length_cons];omega);rw[show i0+(i+1)=i0+1+i by omega] at this
     simpa using this)
   have e:cs.drop (i0*k)=(cs.drop (i0*k)).take k++cs.drop ((i0+1)*k):=by
     rw[Nat.add_mul,Nat.one_mul,←List.drop_drop,List.take_append_drop]
   rw[e];simp only[List.map_cons,HA];exact h1.append h2
theorem Pl {base n:Nat} {a:Addr} {cs:List Value} (h:w.cells? base a n=some cs):cs.length=n∧∀j,j<n→w.cell? (a.add j)=cs[j]?:=by
 unfold World.cells? at h;split at h
 · exact ⟨by simpa using mapM_some_length h,fun j hj=>mapM_some_get h j j (by simp[hj])⟩
 · cases h
theorem T6 (xs:List (DataW H×List MemPlace)):RR (xs.map (·.1))=xs.map fun x=>B3 x.1:=by
 induction xs with
 | nil=>rfl
 | cons x r ih=>simp[RR,ih]
theorem XX {w:World} {a:Addr} {v:Value} (h:w.cell? a=some v):∃c t fr,w.heap[a.block]?=some (.cells c t fr)∧a.spot=none∧c[a.off]?=some v:=by
 unfold World.cell? at h;split at h
 · rename_i c t fr hb;split at h
   · cases h
   · rename_i hs;exact ⟨c,t,fr,hb,by simpa using hs,h⟩
 · cases h
theorem Ao9 {F:Nat→Prop} (hF:∀b,b<w.heap.size→F b):∀(m:Nat) (t:TypeId),CM P m t=true→∀(fuel:Nat) (cs:List Value) (x:DataW H×List MemPlace),
   DataW.trod enc P w 0 spare held fuel t cs=some x→PRl F w (B3 x.1) cs:=by
 intro m
 induction m with
 | zero=>intro t h;simp[CM] at h
 | succ m ih=>
   intro t ht fuel cs x h;simp only[CM] at ht;split at ht
   · rename_i hu;obtain ⟨b,rfl,rfl⟩:=DataW.trod_bool hu h;exact .one (.bool b)
   · rename_i k hu;obtain ⟨n,rfl,rfl,_⟩:=DataW.trod_int hu h;exact .one (.int k n)
   · rename_i hu;obtain ⟨s,rfl,rfl,_⟩:=DataW.trod_string hu h;have:=PR.str (F:=F) (w:=w) s.data.toList;exact .one (by simpa using this)
   · rename_i e hu;simp only[Bool.and_eq_true,decide_eq_true_eq] at ht;obtain ⟨hk,hpe⟩:=ht;rcases DataW.trod_slice hu h with ⟨rfl,rfl⟩ | ⟨a,len,cap,elems,rest,n,rfl,rfl,rfl,hb,hl,hc,hel,AN,_,_⟩
     · exact .one (.Tk none 0)
     · refine .one ?_;simp only[T6];have hg:∀(i:Nat) y,elems[i]?=some y→∃cs',w.cells? 0 (a.add (i*P.cellsOf e)) (P.cellsOf e)=some cs'∧PRl F w (B3 y.1) cs':=by
         intro i y hy;have hi:i<len:=by rw[←hel];exact (List.getElem?_eq_some_iff.1 hy).1
         have:=AN i hi;rw[hy] at this;obtain ⟨cs',h1,h2⟩:=Option.bind_eq_some_iff.1 this;exact ⟨cs',h1,ih e hpe _ _ _ h2⟩
       have GA:∀(i:Nat) z,(elems.map fun x=>B3 x.1)[i]?=some z→∃y,elems[i]?=some y∧z=B3 y.1:=by
         intro i z hz;rw[List.getElem?_map] at hz;cases hy:elems[i]? with
         | none=>rw[hy] at hz;cases hz
         | some y=>rw[hy] at hz;cases hz;exact ⟨y,rfl,rfl⟩
       by_cases h0:len=0
       · have:elems=[]:=List.eq_nil_of_length_eq_zero (hel.trans h0);subst this;subst h0;exact .Tk (some a) cap
       · have h00:∃y,elems[0]?=some y:=⟨_,List.getElem?_eq_getElem (by omega)⟩;obtain ⟨y,hy⟩:=h00;obtain ⟨cs',h1,_⟩:=hg 0 y hy;obtain ⟨hln,Mc⟩:=Pl h1;have SH:=Mc 0 hk;rw[List.getElem?_eq_getElem (by omega)] at SH;obtain ⟨c,te,fr,hh,Aok,_⟩:=XX SH;obtain ⟨b,off,spot⟩:=a;simp[Addr.add] at hh Aok;subst Aok;have Bd:∀(i:Nat) z (j:Nat) q,(elems.map fun x=>B3 x.1)[i]?=some z→z[j]?=some q→∃v,c[off+i*P.cellsOf e+j]?=some v∧PR F w q v:=by
           intro i z j q hz hq;obtain ⟨y,hy,rfl⟩:=GA i z hz;obtain ⟨cs2,h3,h4⟩:=hg i y hy;obtain ⟨Aww,Aqo⟩:=Pl h3;have hj:j<P.cellsOf e:=by
             have:=(List.getElem?_eq_some_iff.1 hq).1;rw[h4.1,Aww] at this;exact this
           have h5:=Aqo j hj;rw[List.getElem?_eq_getElem (by omega)] at h5;obtain ⟨c2,te2,fr2,hh2,_,h6⟩:=XX h5;simp only[Addr.add_lit] at hh2 h6;rw[hh] at hh2;cases hh2;refine ⟨_,h6,?_⟩;have:=h4.2 j q hq;rwa[List.getD_eq_getElem?_getD,List.getElem?_eq_getElem (by omega)] at this
         have hlen:(elems.map fun x=>B3 x.1).length=len:=by simp[hel]
         have:=PR.sl (F:=F) (w:=w) (elems.map fun x=>B3 x.1) b off cap (P.cellsOf e) c te fr (hF b (Array.getElem?_eq_some_iff.1 hh).1) hh (by omega)
           (fun i z hz=>by
             obtain ⟨y,hy,rfl⟩:=GA i z hz;obtain ⟨cs2,h3,h4⟩:=hg i y hy;rw[h4.1,(Pl h3).1])
           (fun i z j q hz hq=>by obtain ⟨v,hv,_⟩:=Bd i z j q hz hq;exact (Array.getElem?_eq_some_iff.1 hv).1)
           (fun i z j q hz hq=>by
             obtain ⟨v,hv,hp⟩:=Bd i z j q hz hq;rw[Array.getD_eq_getD_getElem?,hv];exact hp)
         rwa[hlen] at this
   · rename_i fs hu;simp only[Bool.and_eq_true,decide_eq_true_eq] at ht;obtain ⟨xs,n,rfl,rfl,hl,W0,AN⟩:=DataW.trod_struct hu h;have:=NZ (F:=F) (cs:=cs) (fun t ht cs x hx=>ih t ht n cs x hx) fs.toList xs 0 _ (by simpa using W0) ht.1 hl ht.2 (fun i f hf=>AN i f (by simpa using hf))
     simpa [B3] using this
   · rename_i k e hu;simp only[Bool.and_eq_true,decide_eq_true_eq] at ht;obtain ⟨xs,n,rfl,rfl,hl,W0,AN⟩:=DataW.trod_array hu h;have:=PX (F:=F) (cs:=cs) (fun cs x hx=>ih e ht.2 n cs x hx) xs 0 (by rw[hl,W0,Nat.zero_add,ht.1]) (fun i hi=>by rw[Nat.zero_add];exact AN i (by omega))
     simpa [B3] using this
   · cases ht
end
end Go.Am
namespace Go.Am
open Go Go.ChangeShapes Go.RowKit
section
variable {H:Type} {enc:TypeId×Value→H} {P:Program} {w:World} {held:Bool}
theorem Apd {sp:Nat→Bool}:∀(m:Nat) (t:TypeId),CM P m t=true→∀(fuel:Nat) (cs:List Value) (x:DataW H×List MemPlace),
   DataW.trod enc P w 0 (fun _=>true) held fuel t cs=some x→(∀p∈x.2,sp p.block=true)→DataW.trod enc P w 0 sp held fuel t cs=some x:=by
 intro m
 induction m with
 | zero=>intro t h;simp[CM] at h
 | succ m ih=>
   intro t ht fuel cs x h EI;cases fuel with
   | zero=>simp[DataW.trod] at h
   | succ n=>
   simp only[CM] at ht;split at ht
   · rename_i hu;obtain ⟨b,rfl,rfl⟩:=DataW.trod_bool hu h;simp[DataW.trod,hu]
   · rename_i k hu;obtain ⟨j,rfl,rfl,hw⟩:=DataW.trod_int hu h;simp[DataW.trod,hu,hw]
   · rename_i hu;obtain ⟨s,rfl,rfl,hl⟩:=DataW.trod_string hu h;simp[DataW.trod,hu,hl]
   · rename_i e hu;simp only[Bool.and_eq_true,decide_eq_true_eq] at ht;obtain ⟨hk,hpe⟩:=ht;unfold DataW.trod at h ⊢;rw[hu] at h ⊢;split at h;all_goals first | (simp_all;done) | skip
     rename_i e1 a len cap he;simp only[Option.some.injEq,TypeDesc.slice.injEq] at he;subst he;simp only at h ⊢;split at h
     case isFalse=>cases h
     rename_i hb;rw[if_pos hb];simp only[Option.bind_eq_some_iff,Option.map_eq_some_iff,if_true] at h ⊢;obtain ⟨elems,hel,rest,hre,rfl⟩:=h;have NQ:∀y∈elems++rest,∀p∈y.2,sp p.block=true:=fun y hy p hp=>EI p (by
       simp only[List.mem_append,List.mem_flatMap];exact .inr ⟨y,by simpa using hy,hp⟩)
     have step:∀(i:Nat) (y:DataW H×List MemPlace),y∈elems++rest→(w.cells? 0 (a.add (i*P.cellsOf e)) (P.cellsOf e)).bind (DataW.trod enc P w 0 (fun _=>true) held n e)=some y→
         (w.cells? 0 (a.add (i*P.cellsOf e)) (P.cellsOf e)).bind (DataW.trod enc P w 0 sp held n e)=some y:=by
       intro i y hy h1;obtain ⟨cs',h2,h3⟩:=Option.bind_eq_some_iff.1 h1;exact Option.bind_eq_some_iff.2 ⟨cs',h2,ih e hpe _ _ _ h3 (NQ y hy)⟩
     refine ⟨elems,mapM_carry hel (fun i y _ hy h1=>step i y (by simp[hy]) h1),rest,?_,rfl⟩;by_cases hc:cap - len=0
     · rw[hc] at hre ⊢;split
       · exact hre
       · simpa using hre
     · have Yo:rest.length=cap - len:=by simpa using mapM_some_length hre
       have O5:sp a.block=true:=EI (.cell a.block a.off) (by
         simp only[List.mem_append];refine .inl (MemPlace.mem_row.2 ⟨0,?_,by simp⟩);exact Nat.mul_pos (by omega) hk)
       rw[if_pos O5];exact mapM_carry hre (fun j y _ hy h1=>step (len+j) y (by simp[hy]) h1)
   · rename_i fs hu;simp only[Bool.and_eq_true,decide_eq_true_eq] at ht;unfold DataW.trod at h ⊢;rw[hu] at h ⊢;split at h;all_goals first | (simp_all;done) | skip
     rename_i fs' he;simp only[Option.some.injEq,TypeDesc.struct.injEq] at he;subst he;try simp only at h
     split at h
     case isFalse=>cases h
     rename_i hl;rw[if_pos hl];simp only[Option.map_eq_some_iff] at h ⊢;obtain ⟨xs,hx,rfl⟩:=h;refine ⟨xs,mapM_carry hx (fun f y hf hy h1=>ih f.type (List.all_eq_true.1 ht.2 f hf) _ _ _ h1 fun p hp=>EI p ?_),rfl⟩;simp only[List.mem_flatMap];exact ⟨y,hy,hp⟩
   · rename_i k e hu;simp only[Bool.and_eq_true,decide_eq_true_eq] at ht;unfold DataW.trod at h ⊢;rw[hu] at h ⊢;split at h;all_goals first | (simp_all;done) | skip
     rename_i k' e' he;simp only[Option.some.injEq,TypeDesc.array.injEq] at he;obtain ⟨rfl,rfl⟩:=he;try simp only at h
     split at h
     case isFalse=>cases h
     rename_i hl;rw[if_pos hl];simp only[Option.map_eq_some_iff] at h ⊢;obtain ⟨xs,hx,rfl⟩:=h;refine ⟨xs,mapM_carry hx (fun i y _ hy h1=>ih _ ht.2 _ _ _ h1 fun p hp=>EI p ?_),rfl⟩;simp only[List.mem_flatMap];exact ⟨y,hy,hp⟩
   · cases ht
end
def Ape (P:Program) (t:TypeId):Bool:=CM P 30 t&&match P.underlying t with
 | some (.struct _)=>false
 | some (.array _ _)=>false
 | _=>true
section
variable {H:Type} {enc:TypeId×Value→H} {P:Program} {W:World}
theorem Aen {t:TypeId} {v:Value} {d:DataW H} {ps:List MemPlace} {sp:Nat→Bool} {M:Nat→Mb} {s:Nat→Option Sg} (ht:Ape P t=true) {bs:Nat} (MC:Value.okWide P W .any bs t v)
   (h:DataW.Trod enc P W 0 sp true t v d ps):DR (fun b=>b<W.heap.size) W M s (Anj d) v:=by
 unfold Ape at ht;simp only[Bool.and_eq_true] at ht;obtain ⟨hp,hs⟩:=ht;obtain ⟨fuel,hf⟩:=h;have h1:=Ao9 (F:=fun b=>b<W.heap.size) (fun _ h=>h) 30 t hp _ _ _ hf;have LV:v.cells=#[v]:=by
   cases v with
   | agg cs=>
     exfalso;unfold Value.okWide Cell.okWide Cell.ok at MC;cases hu:P.underlying t with
     | none=>rw[hu] at MC;simp at MC
     | some u=>rw[hu] at MC hs;cases u<;>simp[CM,hu] at MC hs hp
   | _=>rfl
 rw[LV] at h1;have hl:(B3 d).length=1:=h1.1;obtain ⟨x,hx⟩:=List.length_eq_one_iff.1 hl;unfold Anj;simp only[hx,List.getD_cons_zero];have:=h1.2 0 x (by simp[hx]);exact .p this
theorem WQ {W W':World} (hos:W'.os=W.os) (Qe:W'.output=W.output) (h:∀b,b<W.heap.size→W'.heap[b]?=W.heap[b]?) (may:MemPlace→Prop):W.keptBut W' may:=by
 refine ⟨hos,Qe,fun i hi=>?_⟩;rw[h i hi];split
 · rename_i h1 h2;cases h1.symm.trans h2;exact ⟨rfl,rfl,rfl,fun _ _=>rfl⟩
 · rename_i h1 h2;cases h1.symm.trans h2;exact .inr ⟨rfl,rfl⟩
 · rfl
end
end Go.Am
namespace Go.Am
open Go
def HX (e h h':Hp):Prop:=∀id,get h' id=match get h id with | some o=>some o | none=>get e id
theorem Rs.Og {α:Type} {p:Prop} {k:α→Prop}:∀{r:Rs α},p→r.all k→(r.and p).all k
 | .fail,_,h=>h.elim
 | .ret q a,hp,h=>⟨⟨hp,h.1⟩,h.2⟩
 | .split b x y,hp,h=>⟨fun e=>Rs.Og hp (h.1 e),fun e=>Rs.Og hp (h.2 e)⟩
theorem Rs.A3 {α β:Type} {f:α→Rs β} {k:β→Prop}:∀{r:Rs α},r.all (fun a=>(f a).all k)→(r.bind f).all k
 | .fail,h=>h.elim
 | .ret p a,h=>Rs.Og h.1 h.2
 | .split b x y,h=>⟨fun e=>Rs.A3 (h.1 e),fun e=>Rs.A3 (h.2 e)⟩
section
variable {P:Program} {e h h':Hp}
theorem HX.sm (hx:HX e h h') {id:Nat} {o:AO} (hg:get h id=some o):get h' id=some o:=by rw[hx,hg]
theorem HX.nn (hx:HX e h h') {id:Nat} (hg:get h id=none) (he:get e id=none):get h' id=none:=by rw[hx,hg];exact he
theorem HX.sg (hx:HX e h h') {id:Nat} {s:Sg} (hg:sg h id=some s):sg h' id=some s:=by
 unfold Go.Am.sg at*;cases ho:get h id with
 | none=>rw[ho] at hg;cases hg
 | some o=>rw[ho] at hg;rw[hx.sm ho];exact hg
theorem HX.cur (hx:HX e h h') {id N:Nat} (hc:ZO h id N):ZO h' id N:=by
 unfold ZO at*;cases hs:Go.Am.sg h id with
 | none=>rw[hs] at hc;exact hc.elim
 | some s=>rw[hs] at hc;rw[hx.sg hs];exact hc
theorem HX.Ae (hx:HX e h h') (id:Nat) (o:AO):HX e (Ae h id o) (Ae h' id o):=by
 intro j;rw[A9,A9];by_cases ej:j=id
 · rw[if_pos ej,if_pos ej]
 · rw[if_neg ej,if_neg ej];exact hx j
theorem HX.cons (hx:HX e h h') (id:Nat) (o:AO):HX e ((id,o)::h) ((id,o)::h'):=by
 intro j;rw[AI,AI];by_cases ej:id=j
 · rw[if_pos ej,if_pos ej]
 · rw[if_neg ej,if_neg ej];exact hx j
theorem HX.froze (hx:HX e h h') {id:Nat} {o:AO} (hg:get h id=some o):HX e (froze h id) (froze h' id):=by
 unfold Go.Am.froze;rw[hg,hx.sm hg];cases o<;>first | exact hx.Ae _ _ | exact hx
theorem HX.refl (h:Hp):HX [] h h:=by
 intro id;cases get h id<;>rfl
theorem HX.one {q:Nat} {o:AO} (hq:get h q=none):HX [(q,o)] h ((q,o)::h):=by
 intro id;simp only[AI];by_cases ej:q=id
 · subst ej;rw[hq];simp
 · rw[if_neg ej,if_neg ej];cases get h id<;>rfl
theorem Ago (hx:HX e h h') {t:TypeId} {d:D} {k:D→Prop} (hh:(KD P h t d).all k):(KD P h' t d).all k:=by
 unfold KD at*;split at hh
 · split at hh
   · rename_i h2;simp only[hx.sm h2];exact hh
   · exact hh.elim
 · exact hh
 · split at hh
   · rename_i h2;simp only[hx.sm h2];exact hh
   · rename_i h2;simp only[hx.sm h2];exact hh
   · exact hh.elim
 · split at hh
   · rename_i h2;simp only[hx.sm h2];exact hh
   · exact hh.elim
 · exact hh.elim
theorem S5 (hx:HX e h h') {t:TypeId} {d:D} {f:Nat} {k:D→Prop} (hh:(Ez P t d f h).all k):(Ez P t d f h').all k:=by
 unfold Ez at*;split at hh
 · split at hh
   · split at hh
     · split at hh
       · exact hh
       · exact hh
       · exact ⟨⟨hh.1.1,hx.cur hh.1.2⟩,hh.2⟩
       · exact hh.elim
     · exact hh.elim
   · exact hh.elim
 · exact hh.elim
theorem SV (hx:HX e h h') {t:TypeId} {d i:D} {k:D→Prop} (hh:(Ew P t d i h).all k):(Ew P t d i h').all k:=by
 unfold Ew at*;split at hh
 · split at hh
   · split at hh
     · exact hh
     · exact hh
     · split at hh
       · rename_i h2;simp only[hx.sg h2];exact hh
       · exact hh.elim
     · exact hh
     · exact hh.elim
   · exact hh.elim
 · exact hh
 · exact hh.elim
theorem o4 (hx:HX e h h') {t:TypeId} {d:D} {k:D→Prop} (hh:(Y6 P h t d).all k):(Y6 P h' t d).all k:=by
 unfold Y6 at*;split at hh
 · split at hh
   · exact hh
   · exact hh
   · exact hh
   · exact ⟨hx.cur hh.1,hh.2⟩
   · exact hh
   · exact hh
   · exact hh
   · exact hh.elim
 · exact hh.elim
theorem Aab {env:List (Nat×D)} {n:Nat} (hx:HX e h h') {t:TypeId} {x:D} {lo hi mx:Option Operand} {k:D→Prop} (hh:(FA P ⟨env,h,n⟩ t x lo hi mx).all k):(FA P ⟨env,h',n⟩ t x lo hi mx).all k:=by
 unfold FA at*;split at hh
 · exact hh
 · split at hh
   · split at hh
     · exact hh
     · split at hh
       · rename_i h2;simp only[hx.sg h2];exact hh
       · exact hh.elim
     · exact hh.elim
   · exact hh.elim
 · exact hh.elim
theorem Y3 (hx:HX e h h') {t:TypeId} {x i:D} {ok:Bool} {k:D→Prop} (hh:(Jk P h t x i ok).all k):(Jk P h' t x i ok).all k:=by
 unfold Jk at*;split at hh
 · split at hh
   · rename_i h1;simp only[hx.sm h1];exact hh
   · exact hh.elim
 · exact hh.elim
theorem Ab8 (hx:HX e h h') {t:TypeId} {m i v:D} {k:Hp→Prop} (hh:(Ic P h t m i v).all k):(Ic P h' t m i v).all (fun y=>∃h1,HX e h1 y∧k h1):=by
 unfold Ic at*;split at hh
 · split at hh
   · rename_i h1;simp only[hx.sm h1];exact ⟨hh.1,_,hx.Ae _ _,hh.2⟩
   · exact hh.elim
 · exact hh.elim
theorem j3 {env:List (Nat×D)} {n:Nat} (hx:HX e h h') {op:Op} {k:D→Prop} (hh:(H7 P ⟨env,h,n⟩ op).all k):(H7 P ⟨env,h',n⟩ op).all k:=by
 unfold H7 at*;cases op<;>simp only at hh ⊢<;>first
   | exact hh
   | exact Ago hx hh
   | exact Aab hx hh
   | exact S5 hx hh
   | exact SV hx hh
   | exact Y3 hx hh
   | skip
 · have ee:∀x,ev ⟨env,h',n⟩ x=ev ⟨env,h,n⟩ x:=fun _=>rfl;simp only[ee];split at hh
   · rename_i h1;exact hh
   · rename_i h1;exact hh
   · rename_i h1;exact ⟨hx.cur hh.1,hh.2⟩
   · exact hh.elim
 · rename_i fn _ _;cases fn<;>first
     | exact hh
     | exact hh.elim
theorem Dm (hx:HX e h h') {d:D} {k:D×Hp→Prop} (hh:(Sp h d).all k):(Sp h' d).all (fun y=>∃h1,HX e h1 y.2∧k (y.1,h1)):=by
 unfold Sp at*;split at hh
 · split at hh
   · rename_i h1;simp only[hx.sm h1];exact ⟨hh.1,_,hx.froze h1,hh.2⟩
   · rename_i h1;simp only[hx.sm h1];exact ⟨hh.1,_,hx,hh.2⟩
   · exact hh.elim
 · split at hh
   · rename_i h1;simp only[hx.sm h1];exact ⟨hh.1,_,hx.Ae _ _,hh.2⟩
   · exact hh.elim
 · exact ⟨hh.1,_,hx,hh.2⟩
 · exact ⟨hh.1,_,hx,hh.2⟩
mutual
theorem Aki:∀{d:D} {h h':Hp} (_:HX e h h') {k:D×Hp→Prop} (_:(Bk h d).all k),(Bk h' d).all (fun y=>∃h1,HX e h1 y.2∧k (y.1,h1))
  | .agg cs,h,h',hx,k,hh=>by
    simp only[Bk] at*;exact Rs.A3 (Rs.AE (fun y hy=>by obtain ⟨h1,Gz,h2⟩:=hy;exact ⟨h2.1,h1,Gz,h2.2⟩) (LJ hx (Rs.all_bind hh)))
  | .BA cs,h,h',hx,k,hh=>by
    simp only[Bk] at*;exact Rs.A3 (Rs.AE (fun y hy=>by obtain ⟨h1,Gz,h2⟩:=hy;exact ⟨h2.1,h1,Gz,h2.2⟩) (LJ hx (Rs.all_bind hh)))
  | .p _,h,h',hx,k,hh=>by simp only[Bk] at*;exact Dm hx hh
  | .cl _,h,h',hx,k,hh=>by simp only[Bk] at*;exact Dm hx hh
  | .cz _,h,h',hx,k,hh=>by simp only[Bk] at*;exact Dm hx hh
  | .ref _ _ _ _,h,h',hx,k,hh=>by simp only[Bk] at*;exact Dm hx hh
  | .ptr _ _,h,h',hx,k,hh=>by simp only[Bk] at*;exact Dm hx hh
  | .pe _,h,h',hx,k,hh=>by simp only[Bk] at*;exact Dm hx hh
  | .ea _ _ _ _,h,h',hx,k,hh=>by simp only[Bk] at*;exact Dm hx hh
  | .fn _ _,h,h',hx,k,hh=>by simp only[Bk] at*;exact Dm hx hh
  | .np,h,h',hx,k,hh=>by simp only[Bk] at*;exact Dm hx hh
  | .mv _,h,h',hx,k,hh=>by simp only[Bk] at*;exact Dm hx hh
  | .BS _ _,h,h',hx,k,hh=>by simp only[Bk] at*;exact Dm hx hh
  | .J6 _ _ _,h,h',hx,k,hh=>by simp only[Bk] at*;exact Dm hx hh
  | .nr _ _ _ _,h,h',hx,k,hh=>by simp only[Bk] at*;exact Dm hx hh
  | .Pu,h,h',hx,k,hh=>by simp only[Bk] at*;exact Dm hx hh
  | .bad,h,h',hx,k,hh=>by simp only[Bk] at*;exact Dm hx hh
theorem LJ:∀{ds:List D} {h h':Hp} (_:HX e h h') {k:List D×Hp→Prop} (_:(D3 h ds).all k),(D3 h' ds).all (fun y=>∃h1,HX e h1 y.2∧k (y.1,h1))
  | [],h,h',hx,k,hh=>by simp only[D3] at*;exact ⟨hh.1,_,hx,hh.2⟩
  | d::r,h,h',hx,k,hh=>by
    simp only[D3] at*;refine Rs.A3 (Rs.AE (fun y hy=>?_) (Aki hx (Rs.all_bind hh)));obtain ⟨h1,Gz,h2⟩:=hy;exact Rs.A3 (Rs.AE (fun z hz=>by obtain ⟨h3,Zm,h4⟩:=hz;exact ⟨h4.1,h3,Zm,h4.2⟩) (LJ Gz (Rs.all_bind h2)))
end
theorem Alr (hx:HX e h h') {d:D} {k:Pd×Hp→Prop} (hh:(SP h d).all k):(SP h' d).all (fun y=>∃h1,HX e h1 y.2∧k (y.1,h1)):=by
 unfold SP at*;split at hh
 · exact ⟨hh.1,_,hx,hh.2⟩
 · exact ⟨hh.1,_,hx,hh.2⟩
 · exact ⟨hh.1,_,hx,hh.2⟩
 · split at hh
   · rename_i h1;simp only[hx.sm h1];exact ⟨hh.1,_,hx.froze h1,hh.2⟩
   · rename_i h1;simp only[hx.sm h1];exact ⟨hh.1,_,hx,hh.2⟩
   · exact hh.elim
 · split at hh
   · rename_i h1;simp only[hx.sm h1];exact ⟨hh.1,_,hx.Ae _ _,hh.2⟩
   · exact hh.elim
 · exact hh.elim
theorem Q2:∀{ds:List D} {h h':Hp} (_:HX e h h') {k:List Pd×Hp→Prop} (_:(F4 h ds).all k),(F4 h' ds).all (fun y=>∃h1,HX e h1 y.2∧k (y.1,h1))
 | [],h,h',hx,k,hh=>by simp only[F4] at*;exact ⟨hh.1,_,hx,hh.2⟩
 | d::r,h,h',hx,k,hh=>by
   simp only[F4] at*;refine Rs.A3 (Rs.AE (fun y hy=>?_) (Alr hx (Rs.all_bind hh)));obtain ⟨h1,Gz,h2⟩:=hy;exact Rs.A3 (Rs.AE (fun z hz=>by obtain ⟨h3,Zm,h4⟩:=hz;exact ⟨h4.1,h3,Zm,h4.2⟩) (Q2 Gz (Rs.all_bind h2)))
theorem k4 (hx:HX e h h') {d:D} {k:List (List Pd)→Prop} (hh:(QO h d).all k):(QO h' d).all k:=by
 unfold QO at*;split at hh
 · exact hh
 · exact hh
 · exact hh
 · split at hh
   · rename_i h1;simp only[hx.sm h1];exact hh
   · rename_i h1;simp only[hx.sm h1];exact hh
   · exact hh.elim
 · exact hh.elim
theorem Anl (hx:HX e h h') {q:Nat} (hq:get e q=none) {t t2:TypeId} {s x:D} {k:D×Hp→Prop} (hh:(Sv P h q t t2 s x).all k):(Sv P h' q t t2 s x).all (fun y=>∃h1,HX e h1 y.2∧k (y.1,h1)):=by
 unfold Sv at*;split at hh
 case h_2=>exact hh.elim
 split at hh
 case h_2=>exact hh.elim
 refine Rs.A3 (Rs.AE (fun ys hy=>?_) (k4 hx (Rs.all_bind hh)));split at hy
 · obtain ⟨⟨a1,a2,a3,a4,a5,a6⟩,hk⟩:=hy;exact ⟨⟨a1,a2,a3,a4,hx.nn a5 hq,a6⟩,_,hx.cons _ _,hk⟩
 · obtain ⟨⟨a1,a2,a3,a4,a5,a6⟩,hk⟩:=hy;exact ⟨⟨a1,a2,a3,a4,hx.nn a5 hq,a6⟩,_,hx.cons _ _,hk⟩
 · obtain ⟨h0,hy⟩:=Mj hy;refine Tg h0 ?_;split at hy
   · rename_i h1;simp only[hx.sm h1];exact ⟨hy.1,_,hx.Ae _ _,hy.2⟩
   · exact hy.elim
 · split at hy
   · rename_i h1;obtain ⟨⟨a1,a2,a3,a4,⟨b1,b2,b3,b4,b5,b6⟩,a5⟩,hk⟩:=hy;simp only[hx.sm h1];exact ⟨⟨a1,a2,a3,a4,⟨b1,b2,b3,b4,b5,hx.nn b6 hq⟩,a5⟩,_,(hx.Ae _ _).cons _ _,hk⟩
   · exact hy.elim
 · exact hy.elim
theorem Ak5 (hx:HX e h h') {t:TypeId} {s x:D} {k:D×Hp→Prop} (hh:(K8 P h t s x).all k):(K8 P h' t s x).all (fun y=>∃h1,HX e h1 y.2∧k (y.1,h1)):=by
 unfold K8 at*;split at hh
 case h_2=>exact hh.elim
 split at hh
 case h_2=>exact hh.elim
 refine Rs.A3 (Rs.AE (fun ys hy=>?_) (k4 hx (Rs.all_bind hh)));split at hy
 case h_2=>exact hy.elim
 split at hy
 case h_2=>exact hy.elim
 rename_i h1;simp only[hx.sm h1];exact ⟨hy.1,_,hx.Ae _ _,hy.2⟩
theorem UT (hx:HX e h h') {id i n:Nat} {v:D} {k:Hp→Prop} (hh:(Dv h id i n v).all k):(Dv h' id i n v).all (fun y=>∃h1,HX e h1 y∧k h1):=by
 unfold Dv at*;split at hh
 · split at hh
   · rename_i h1 h2;simp only[hx.sm h1,hx.sm h2];exact ⟨hh.1,_,(hx.Ae _ _).Ae _ _,hh.2⟩
   · exact hh.elim
 · exact hh.elim
theorem Aa7 (hx:HX e h h') {t:TypeId} {a v:D} {k:Hp→Prop} (hh:(H9 P h t a v).all k):(H9 P h' t a v).all (fun y=>∃h1,HX e h1 y∧k h1):=by
 unfold H9 at*;split at hh
 case h_2=>exact hh.elim
 split at hh
 case h_2=>exact hh.elim
 split at hh
 · split at hh
   · rename_i h1;simp only[hx.sm h1];exact ⟨hh.1,_,hx.Ae _ _,hh.2⟩
   · exact hh.elim
 · refine Rs.A3 (Rs.AE (fun y hy=>?_) (Q2 hx (Rs.all_bind hh)));obtain ⟨h1,Gz,hy⟩:=hy;split at hy
   · rename_i h2;simp only[Gz.sm h2];exact ⟨hy.1,_,Gz.Ae _ _,hy.2⟩
   · exact hy.elim
 · exact Rs.Og (Rs.CI hh).1 (UT hx (Rs.CI hh).2)
 · exact hh.elim
end
end Go.Am
namespace Go.Am
open Go
section
variable {P:Program} {e h h':Hp}
theorem Ji {env:List (Nat×D)} {n:Nat} (hx:HX e h h') {q:Nat} (hq:get e q=none) {op:Op} {k:D×Hp→Prop} (hh:(Jj P ⟨env,h,n⟩ q op).all k):
   (Jj P ⟨env,h',n⟩ q op).all (fun y=>∃h1,HX e h1 y.2∧k (y.1,h1)):=by
 have ee:∀x,ev ⟨env,h',n⟩ x=ev ⟨env,h,n⟩ x:=fun _=>rfl;have ef:ev ⟨env,h',n⟩=ev ⟨env,h,n⟩:=funext ee;unfold Jj at*;simp only[ee] at*;split at hh
 · split at hh
   · split at hh
     · exact ⟨hx.nn hh.1 hq,_,hx.cons _ _,hh.2⟩
     · exact hh.elim
   · exact hh.elim
 · split at hh
   · exact ⟨hx.nn hh.1 hq,_,hx.cons _ _,hh.2⟩
   · exact hh.elim
 · refine Rs.A3 (Rs.AE (fun y hy=>?_) (Aa7 hx (Rs.all_bind hh)));obtain ⟨h1,Gz,hy⟩:=hy;exact ⟨hy.1,h1,Gz,hy.2⟩
 · exact ⟨hx.nn hh.1 hq,_,hx.cons _ _,hh.2⟩
 · refine Rs.A3 (Rs.AE (fun y hy=>?_) (Ab8 hx (Rs.all_bind hh)));obtain ⟨h1,Gz,hy⟩:=hy;exact ⟨hy.1,h1,Gz,hy.2⟩
 · split at hh
   · split at hh
     · split at hh
       · split at hh
         · exact hh.elim
         rename_i hn;rw[if_neg hn];refine Rs.A3 (Rs.AE (fun y hy=>?_) (Q2 hx (Rs.all_bind hh)));obtain ⟨h1,Gz,hy⟩:=hy;exact ⟨⟨hy.1.1,hy.1.2.1,Gz.nn hy.1.2.2 hq⟩,_,Gz.cons _ _,hy.2⟩
       · exact hh.elim
     · exact hh.elim
   · exact hh.elim
 · split at hh
   · split at hh
     · split at hh
       · exact hh.elim
       rename_i hn;rw[if_neg hn];refine Rs.A3 (Rs.AE (fun y hy=>?_) (Rs.all_bind hh));exact ⟨⟨hy.1.1,hx.nn hy.1.2.1 hq,hy.1.2.2⟩,_,hx.cons _ _,hy.2⟩
     · exact hh.elim
   · exact hh.elim
 · exact hh.elim
theorem X1 {env:List (Nat×D)} {n:Nat} (hx:HX e h h') {q:Nat} (hq:get e q=none) {b:Builtin} {ts:Array TypeId} {args:List D} {k:D×Hp→Prop} (hh:(C7 P ⟨env,h,n⟩ q b ts args).all k):
   (C7 P ⟨env,h',n⟩ q b ts args).all (fun y=>∃h1,HX e h1 y.2∧k (y.1,h1)):=by
 unfold C7 at*;split at hh
 · split at hh
   · refine Rs.A3 (Rs.AE (fun y hy=>?_) (o4 hx (Rs.all_bind hh)));exact ⟨hy.1,_,hx,hy.2⟩
   · exact hh.elim
 · split at hh
   · exact Anl hx hq hh
   · exact hh.elim
 · split at hh
   · exact Ak5 hx hh
   · exact hh.elim
 · exact ⟨hh.1,_,hx,hh.2⟩
 · exact ⟨hh.1,_,hx,hh.2⟩
 · exact hh.elim
theorem Aqy {env:List (Nat×D)} {n:Nat} (hx:HX e h h') {o:Oper} (hq:get e (o.dst.getD 0)=none) {k:D×Hp→Prop} (hh:(Ij P ⟨env,h,n⟩ o).all k):
   (Ij P ⟨env,h',n⟩ o).all (fun y=>∃h1,HX e h1 y.2∧k (y.1,h1)):=by
 have val:∀{op:Op},((H7 P ⟨env,h,n⟩ op).bind fun d=> .ret True (d,h)).all k→((H7 P ⟨env,h',n⟩ op).bind fun d=> .ret True (d,h')).all (fun y=>∃h1,HX e h1 y.2∧k (y.1,h1)):=fun hv=>
   Rs.A3 (Rs.AE (fun d hd=>⟨hd.1,_,hx,hd.2⟩) (j3 hx (Rs.all_bind hv)))
 unfold Ij at*;split at hh
 · split at hh
   · exact X1 hx hq hh
   · exact hh.elim
 · rename_i h1;exact Ji hx hq hh
 · exact Ji hx hq hh
 · exact Ji hx hq hh
 · exact Ji hx hq hh
 · exact Ji hx hq hh
 · exact Ji hx hq hh
 · exact Ji hx hq hh
 · exact val hh
theorem Aka {env:List (Nat×D)} {n:Nat} (hx:HX e h h') {f:Operand} {args:List Operand} {k:FuncId×List D×Hp→Prop} (hh:(EP ⟨env,h,n⟩ f args).all k):
   (EP ⟨env,h',n⟩ f args).all (fun y=>∃h1,HX e h1 y.2.2∧k (y.1,y.2.1,h1)):=by
 have ee:∀x,ev ⟨env,h',n⟩ x=ev ⟨env,h,n⟩ x:=fun _=>rfl;have ef:ev ⟨env,h',n⟩=ev ⟨env,h,n⟩:=funext ee;unfold EP at*;rw[ef];split at hh
 · refine Rs.A3 (Rs.AE (fun y hy=>?_) (LJ hx (Rs.all_bind hh)));obtain ⟨h1,Gz,hy⟩:=hy;exact ⟨hy.1,h1,Gz,hy.2⟩
 · exact hh.elim
theorem EB:∀(l T:List Nat) (id:Nat),id∈T→id∈Dn T l
 | [],T,id,h=>h
 | i::r,T,id,h=>by
   simp only[Dn];split
   · exact EB r T id h
   · exact EB r _ id (List.mem_append_left _ h)
theorem Rv (hx:HX e h h'):∀(l:List Nat),(∀id∈l,(get h id).isSome=true)→GK h' l=GK h l
 | [],_=>rfl
 | i::r,hp=>by
   obtain ⟨o,ho⟩:=Option.isSome_iff_exists.1 (hp i (by simp));simp only[GK,ho,hx.sm ho,Rv hx r (fun id hi=>hp id (by simp[hi]))]
theorem NU (hx:HX e h h') (he:∀id,get e id≠none→id<10000) {id:Nat} (hid:base≤id):ghost h' id=ghost h id:=by
 have:get h' id=get h id:=by
   rw[hx];cases hg:get h id with
   | some o=>rfl
   | none=>
     cases he2:get e id with
     | none=>rfl
     | some o=>have:=he id (by rw[he2];simp);unfold base at hid;omega
 simp only[ghost,this]
theorem Aby (hx:HX e h h') (he:∀id,get e id≠none→id<10000):O9 h'=O9 h:=by
 simp only[O9,NU hx he (Nat.le_refl base),NU hx he (Nat.le_add_right base 1),NU hx he (Nat.le_add_right base 2),NU hx he (Nat.le_add_right base 3)]
theorem Ur (hx:HX e h h') (he:∀id,get e id≠none→id<10000) (ids:List Nat) (hp:∀id∈B9 h ids,(get h id).isSome=true):B9 h' ids=B9 h ids:=by
 unfold B9 at*;simp only at hp ⊢;have h0:GK h' (Dn [] ids)=GK h (Dn [] ids):=Rv hx _ fun id hi=>hp id (EB _ _ _ (EB _ _ _ (EB _ _ _ hi)));rw[h0];have h1:GK h' (Dn (Dn [] ids) (GK h (Dn [] ids)))=GK h (Dn (Dn [] ids) (GK h (Dn [] ids))):=Rv hx _ fun id hi=>hp id (EB _ _ _ (EB _ _ _ hi));rw[h1,Aby hx he]
theorem YE (hx:HX e h h') (ρ:Nat→Option Nat):∀(T:List Nat) (k:Nat),(∀id∈T,(get h id).isSome=true)→sub h' ρ k T=sub h ρ k T
 | [],_,_=>rfl
 | i::r,k,hp=>by
   obtain ⟨o,ho⟩:=Option.isSome_iff_exists.1 (hp i (by simp));simp only[sub,ho,hx.sm ho,YE hx ρ r (k+1) (fun id hi=>hp id (by simp[hi]))]
theorem Xh (hx:HX e h h') {q:Nat} (hq:∀j,get e (10000*(j+1)+q)=none):∀(l:Hp),fresh q h l→fresh q h' l
 | [],_=>trivial
 | (j,_)::r,hf=>⟨hf.1.imp id fun h1=>hx.nn h1 (hq j),Xh hx hq r hf.2⟩
theorem Nz (hx:HX e h h') (T:List Nat) (q:Nat):∀(l:Hp),HX e (merge T q h l) (merge T q h' l)
 | []=>hx
 | (j,o)::r=>by
   simp only[merge];split
   · exact (Nz hx T q r).Ae _ _
   · exact Nz hx T q r
theorem Akc (hx:HX e h h') {f:FuncId} {ds:List D} {q:Nat} (he:∀id,get e id≠none→id<10000) (hq:∀j,get e (10000*(j+1)+q)=none) {k:D→Hp→Prop} (hh:Fx P h f ds q k):
   Fx P h' f ds q (fun d y=>∃h1,HX e h1 y∧k d h1):=by
 unfold Fx at*;obtain ⟨h1,h2,h3⟩:=hh;have hp:∀id∈B9 h (Ai ds),(get h id).isSome=true:=fun id hi=>List.all_eq_true.1 h2 id hi;rw[Ur hx he _ hp];refine ⟨h1,List.all_eq_true.2 fun id hi=>?_,?_⟩
 · obtain ⟨o,ho⟩:=Option.isSome_iff_exists.1 (hp id hi);rw[hx.sm ho];rfl
 · rw[YE hx _ _ _ hp];exact h3.mono fun h2 r ⟨hf,hk⟩=>⟨Xh hx hq h2 hf,_,Nz hx _ _ _,hk⟩
theorem Rs.C9 {α:Type} {S:Prop} {k:α→Prop}:∀{r:Rs α},r.all k→r.HG S k
 | .fail,h=>h.elim
 | .ret p a,h=>h
 | .split b x y,h=>⟨fun e=>Rs.C9 (h.1 e),fun e=>Rs.C9 (h.2 e)⟩
theorem MT {f:FuncId} {ds:List D} {q:Nat} {k k':D→Hp→Prop} (hk:∀d y,k d y→k' d y) (hh:Fx P h f ds q k):Fx P h f ds q k':=by
 unfold Fx at*;exact ⟨hh.1,hh.2.1,hh.2.2.mono fun h2 r ⟨hf,h3⟩=>⟨hf,hk _ _ h3⟩⟩
theorem Ap3 {env:List (Nat×D)} {n:Nat} (hx:HX e h h') {o:Oper} (hq:∀id,get e id≠none→id<10000) (hd:get e (o.dst.getD 0)=none) {K:St→Prop} (hh:OA P false o K ⟨env,h,n⟩):
   OA P false o (fun st=>∃h1,HX e h1 st.hp∧K {st with hp:=h1}) ⟨env,h',n⟩:=by
 have KQ:∀j,get e (10000*(j+1)+o.dst.getD 0)=none:=fun j=>by
   cases hg:get e (10000*(j+1)+o.dst.getD 0) with
   | none=>rfl
   | some x=>have:=hq _ (by rw[hg];simp);omega
 have key:∀(y h2:Hp) (d:D),K ((⟨env,h2,n⟩:St).put o.dst d)→K {(⟨env,y,n⟩:St).put o.dst d with hp:=h2}:=by
   intro y h2 d hk;generalize o.dst=dst at hk ⊢;cases dst with
   | none=>exact hk
   | some t=>
     simp only[St.put] at hk ⊢;split
     · rename_i ht;rw[if_pos ht] at hk;exact hk
     · rename_i ht;rw[if_neg ht] at hk;exact hk
 have Aon:∀(st:St) (t:Option Nat) (d:D),(st.put t d).hp=st.hp:=by
   intro st t d;cases t with
   | none=>rfl
   | some t=>simp only[St.put];split<;>rfl
 unfold OA at*;split at hh
 · rename_i f args ho;rcases Rs.DL hh with hh | hh
   case inr=>exact (Bool.false_ne_true hh.1).elim
   simp only[JE] at hh ⊢;refine Rs.C9 (Rs.AE (fun x Jo=>?_) (Aka hx hh));obtain ⟨h1,Gz,hc⟩:=Jo;have:=Akc Gz hq KQ hc;refine MT (fun d y hy=>?_) this;obtain ⟨h2,Jo,hk⟩:=hy;exact ⟨h2,by rw[Aon];exact Jo,key _ _ _ hk⟩
 · rcases Rs.DL hh with hh | hh
   case inr=>exact (Bool.false_ne_true hh.1).elim
   refine Rs.C9 (Rs.AE (fun x Jo=>?_) (Aqy hx hd hh));obtain ⟨h1,Gz,hk⟩:=Jo;exact ⟨h1,by rw[Aon];exact Gz,key _ _ _ hk⟩
end
end Go.Am
namespace Go.Am
open Go
def D4 (h:Hp) (d:D):Prop:=∀id∈d.ids,get h id≠none
def DZ (h:Hp) (ds:List D):Prop:=∀id∈Ai ds,get h id≠none
def GI (h:Hp):Prop:=∀id o,get h id=some o→∀i∈o.ids,get h i≠none
def JZ (h h':Hp):Prop:=∀id,get h id≠none→get h' id≠none
def CZ (q:Option Nat) (h h':Hp):Prop:=∀id,get h' id≠none→get h id≠none∨some id=q∨10000≤id
section
variable {P:Program} {e h h':Hp} {q:Option Nat}
theorem HX.eq (hx:HX e h h') {id:Nat} (hg:get h id≠none):get h' id=get h id:=by
 cases ho:get h id with
 | none=>exact (hg ho).elim
 | some o=>exact hx.sm ho
theorem HX.nn' (hx:HX e h h') {id:Nat} (hg:get h' id=none):get h id=none:=by
 cases ho:get h id with
 | none=>rfl
 | some o=>rw[hx.sm ho] at hg;cases hg
theorem CZ.refl (q:Option Nat) (h:Hp):CZ q h h:=fun _ hi=> .inl hi
theorem CZ.trans {ZF:Hp} (h1:CZ q h h') (h2:CZ q h' ZF):CZ q h ZF:=fun id hi=>by
 rcases h2 id hi with h3 | h3
 · exact h1 id h3
 · exact .inr h3
theorem JZ.refl (h:Hp):JZ h h:=fun _ hi=>hi
theorem JZ.trans {ZF:Hp} (h1:JZ h h') (h2:JZ h' ZF):JZ h ZF:=fun id hi=>h2 id (h1 id hi)
theorem CZ.Ae {id:Nat} (hg:get h id≠none) (o:AO):CZ q h (Ae h id o):=by
 intro j hj;rw[A9] at hj;by_cases ej:j=id
 · subst ej;exact .inl hg
 · rw[if_neg ej] at hj;exact .inl hj
theorem JZ.Ae (h:Hp) (id:Nat) (o:AO):JZ h (Ae h id o):=by
 intro j hj;rw[A9];by_cases ej:j=id
 · rw[if_pos ej];simp
 · rw[if_neg ej];exact hj
theorem T0 {h:Hp} {id:Nat} (j:Nat):get (froze h id) j=match get h j with
   | some (.arr t sz es)=>if j=id then some (.J3 sz es) else some (.arr t sz es)
   | o=>o:=by
 unfold froze;split
 · rename_i t sz es hg;rw[A9];by_cases ej:j=id
   · subst ej;rw[if_pos rfl,hg];simp
   · rw[if_neg ej];cases get h j with
     | none=>rfl
     | some o=>cases o<;>simp[ej]
 · rename_i hg;cases hj:get h j with
   | none=>rfl
   | some o=>cases o with
     | arr t sz es=>
       by_cases ej:j=id
       · subst ej;exact (hg _ _ _ hj).elim
       · simp[ej]
     | _=>rfl
theorem MF {h:Hp} {id j:Nat}:get (froze h id) j≠none↔get h j≠none:=by
 rw[T0];cases get h j with
 | none=>simp
 | some o=>cases o<;>simp<;>split<;>simp
theorem GI.froze (hn:GI h) (id:Nat):GI (froze h id):=by
 intro j o hj i hi;rw[MF];rw[T0] at hj;cases hg:get h j with
 | none=>rw[hg] at hj;cases hj
 | some o2=>
   rw[hg] at hj;cases o2 with
   | arr t sz es=>
     simp only at hj;split at hj<;>(cases hj;simp[AO.ids] at hi)
   | J3 sz es=>cases hj;simp[AO.ids] at hi
   | iter l pos=>cases hj;simp[AO.ids] at hi
   | BK g cs=>cases hj;simp[AO.ids] at hi
   | Df s=>cases hj;simp[AO.ids] at hi
   | mp l=>cases hj;simp[AO.ids] at hi
   | BP t e sz k rows hole=>cases hj;simp[AO.ids] at hi
   | box cs ty=>cases hj;exact hn j _ hg i hi
def CV (h h':Hp):Prop:=∀id,get h' id≠none↔get h id≠none
theorem CV.refl (h:Hp):CV h h:=fun _=>Iff.rfl
theorem CV.trans {ZF:Hp} (h1:CV h h') (h2:CV h' ZF):CV h ZF:=fun id=>(h2 id).trans (h1 id)
theorem CV.Apl (hk:CV h h') {d:D}:D4 h' d↔D4 h d:=⟨fun hp id hi=>(hk id).1 (hp id hi),fun hp id hi=>(hk id).2 (hp id hi)⟩
theorem CV.l6 (hk:CV h h') {d:List D}:DZ h' d↔DZ h d:=⟨fun hp id hi=>(hk id).1 (hp id hi),fun hp id hi=>(hk id).2 (hp id hi)⟩
theorem GI.Ae (hn:GI h) {id:Nat} (hg:get h id≠none) {o:AO} (ho:o.ids=[]):GI (Ae h id o):=by
 intro j o2 hj i hi;rw[A9] at hj;by_cases ej:j=id
 · rw[if_pos ej] at hj;cases hj;rw[ho] at hi;cases hi
 · rw[if_neg ej] at hj;exact JZ.Ae h id o i (hn j o2 hj i hi)
theorem CV.Ae {id:Nat} (hg:get h id≠none) (o:AO):CV h (Ae h id o):=by
 intro j;rw[A9];by_cases ej:j=id
 · subst ej;rw[if_pos rfl];exact ⟨fun _=>hg,fun _=>by simp⟩
 · rw[if_neg ej]
theorem Agn (hx:HX e h h') {t:TypeId} {d:D} (hd:D4 h d):KD P h' t d=KD P h t d:=by
 unfold KD;cases AT P t with
 | none=>rfl
 | some ti=>cases d with
   | ptr id off=>simp only[hx.eq (hd id (by simp[D.ids]))]
   | ea id i c N=>simp only[hx.eq (hd id (by simp[D.ids]))]
   | J6 id i n=>simp only[hx.eq (hd id (by simp[D.ids]))]
   | _=>rfl
theorem Dl (hx:HX e h h') (hn:GI h) {d:D} (hd:D4 h d) {k:D×Hp→Prop} (hh:(Sp h' d).all k):
   (Sp h d).all (fun y=>(∃CO,HX e y.2 CO∧k (y.1,CO))∧D4 h y.1∧GI y.2∧CV h y.2):=by
 have pl:∀x:Pd,D4 h (.p x):=fun x id hi=>by simp[D.ids] at hi
 unfold Sp at*;split at hh
 · rename_i id off len N;rw[hx.eq (hd id (by simp[D.ids]))] at hh;split at hh
   · rename_i h1;exact ⟨hh.1,⟨_,hx.froze h1,hh.2⟩,pl _,hn.froze id,fun j=>MF⟩
   · exact ⟨hh.1,⟨_,hx,hh.2⟩,pl _,hn,CV.refl _⟩
   · exact hh.elim
 · rename_i id n;have hid:=hd id (by simp[D.ids]);rw[hx.eq hid] at hh;split at hh
   · exact ⟨hh.1,⟨_,hx.Ae _ _,hh.2⟩,pl _,hn.Ae hid rfl,CV.Ae hid _⟩
   · exact hh.elim
 · exact ⟨hh.1,⟨_,hx,hh.2⟩,pl _,hn,CV.refl _⟩
 · exact ⟨hh.1,⟨_,hx,hh.2⟩,hd,hn,CV.refl _⟩
theorem DZ.cons {d:D} {r:List D}:DZ h (d::r)↔D4 h d∧DZ h r:=by
 unfold DZ D4;simp only[Ai,List.mem_append];exact ⟨fun hh=>⟨fun id hi=>hh id (.inl hi),fun id hi=>hh id (.inr hi)⟩,fun hh id hi=>hi.elim (hh.1 id) (hh.2 id)⟩
theorem D4.le {h2:Hp} (hk:JZ h h2) {d:D} (hd:D4 h d):D4 h2 d:=fun id hi=>hk id (hd id hi)
theorem DZ.le {h2:Hp} (hk:JZ h h2) {d:List D} (hd:DZ h d):DZ h2 d:=fun id hi=>hk id (hd id hi)
mutual
theorem Akh:∀{d:D} {h h':Hp} (_:HX e h h') (_:GI h) (_:D4 h d) {k:D×Hp→Prop} (_:(Bk h' d).all k),
    (Bk h d).all (fun y=>(∃CO,HX e y.2 CO∧k (y.1,CO))∧D4 h y.1∧GI y.2∧CV h y.2)
  | .agg cs,h,h',hx,hn,hd,k,hh=>by
    simp only[Bk] at*;refine Rs.A3 (Rs.AE (fun y hy=>?_) (LI hx hn (ds:=cs) hd (Rs.all_bind hh)));obtain ⟨⟨h1,Gz,h2⟩,h3,h4⟩:=hy;exact ⟨h2.1,⟨h1,Gz,h2.2⟩,h3,h4⟩
  | .BA cs,h,h',hx,hn,hd,k,hh=>by
    simp only[Bk] at*;refine Rs.A3 (Rs.AE (fun y hy=>?_) (LI hx hn (ds:=cs) hd (Rs.all_bind hh)));obtain ⟨⟨h1,Gz,h2⟩,h3,h4⟩:=hy;exact ⟨h2.1,⟨h1,Gz,h2.2⟩,h3,h4⟩
  | .p _,h,h',hx,hn,hd,k,hh=>by simp only[Bk] at*;exact Dl hx hn hd hh
  | .cl _,h,h',hx,hn,hd,k,hh=>by simp only[Bk] at*;exact Dl hx hn hd hh
  | .cz _,h,h',hx,hn,hd,k,hh=>by simp only[Bk] at*;exact Dl hx hn hd hh
  | .ref _ _ _ _,h,h',hx,hn,hd,k,hh=>by simp only[Bk] at*;exact Dl hx hn hd hh
  | .ptr _ _,h,h',hx,hn,hd,k,hh=>by simp only[Bk] at*;exact Dl hx hn hd hh
  | .pe _,h,h',hx,hn,hd,k,hh=>by simp only[Bk] at*;exact Dl hx hn hd hh
  | .ea _ _ _ _,h,h',hx,hn,hd,k,hh=>by simp only[Bk] at*;exact Dl hx hn hd hh
  | .fn _ _,h,h',hx,hn,hd,k,hh=>by simp only[Bk] at*;exact Dl hx hn hd hh
  | .np,h,h',hx,hn,hd,k,hh=>by simp only[Bk] at*;exact Dl hx hn hd hh
  | .mv _,h,h',hx,hn,hd,k,hh=>by simp only[Bk] at*;exact Dl hx hn hd hh
  | .BS _ _,h,h',hx,hn,hd,k,hh=>by simp only[Bk] at*;exact Dl hx hn hd hh
  | .J6 _ _ _,h,h',hx,hn,hd,k,hh=>by simp only[Bk] at*;exact Dl hx hn hd hh
  | .nr _ _ _ _,h,h',hx,hn,hd,k,hh=>by simp only[Bk] at*;exact Dl hx hn hd hh
  | .Pu,h,h',hx,hn,hd,k,hh=>by simp only[Bk] at*;exact Dl hx hn hd hh
  | .bad,h,h',hx,hn,hd,k,hh=>by simp only[Bk] at*;exact Dl hx hn hd hh
theorem LI:∀{ds:List D} {h h':Hp} (_:HX e h h') (_:GI h) (_:DZ h ds) {k:List D×Hp→Prop} (_:(D3 h' ds).all k),
    (D3 h ds).all (fun y=>(∃CO,HX e y.2 CO∧k (y.1,CO))∧DZ h y.1∧GI y.2∧CV h y.2)
  | [],h,h',hx,hn,hd,k,hh=>by simp only[D3] at*;exact ⟨hh.1,⟨_,hx,hh.2⟩,hd,hn,CV.refl _⟩
  | d::r,h,h',hx,hn,hd,k,hh=>by
    simp only[D3] at*;obtain ⟨SG,Hw⟩:=DZ.cons.1 hd;refine Rs.A3 (Rs.AE (fun y hy=>?_) (Akh hx hn SG (Rs.all_bind hh)));obtain ⟨⟨h1,Gz,h2⟩,hp1,W8,OZ⟩:=hy;refine Rs.A3 (Rs.AE (fun z hz=>?_) (LI Gz W8 (OZ.l6.2 Hw) (Rs.all_bind h2)));obtain ⟨⟨h3,Zm,h4⟩,Jq,hn2,HL⟩:=hz;exact ⟨h4.1,⟨h3,Zm,h4.2⟩,DZ.cons.2 ⟨hp1,OZ.l6.1 Jq⟩,hn2,OZ.trans HL⟩
end
theorem Alq (hx:HX e h h') (hn:GI h) {d:D} (hd:D4 h d) {k:Pd×Hp→Prop} (hh:(SP h' d).all k):
   (SP h d).all (fun y=>(∃CO,HX e y.2 CO∧k (y.1,CO))∧GI y.2∧CV h y.2):=by
 unfold SP at*;split at hh
 · exact ⟨hh.1,⟨_,hx,hh.2⟩,hn,CV.refl _⟩
 · exact ⟨hh.1,⟨_,hx,hh.2⟩,hn,CV.refl _⟩
 · exact ⟨hh.1,⟨_,hx,hh.2⟩,hn,CV.refl _⟩
 · rename_i id off len N;rw[hx.eq (hd id (by simp[D.ids]))] at hh;split at hh
   · rename_i h1;exact ⟨hh.1,⟨_,hx.froze h1,hh.2⟩,hn.froze id,fun j=>MF⟩
   · exact ⟨hh.1,⟨_,hx,hh.2⟩,hn,CV.refl _⟩
   · exact hh.elim
 · rename_i id n;have hid:=hd id (by simp[D.ids]);rw[hx.eq hid] at hh;split at hh
   · exact ⟨hh.1,⟨_,hx.Ae _ _,hh.2⟩,hn.Ae hid rfl,CV.Ae hid _⟩
   · exact hh.elim
 · exact hh.elim
theorem Q1:∀{ds:List D} {h h':Hp} (_:HX e h h') (_:GI h) (_:DZ h ds) {k:List Pd×Hp→Prop} (_:(F4 h' ds).all k),
   (F4 h ds).all (fun y=>(∃CO,HX e y.2 CO∧k (y.1,CO))∧GI y.2∧CV h y.2)
 | [],h,h',hx,hn,hd,k,hh=>by simp only[F4] at*;exact ⟨hh.1,⟨_,hx,hh.2⟩,hn,CV.refl _⟩
 | d::r,h,h',hx,hn,hd,k,hh=>by
   simp only[F4] at*;obtain ⟨SG,Hw⟩:=DZ.cons.1 hd;refine Rs.A3 (Rs.AE (fun y hy=>?_) (Alq hx hn SG (Rs.all_bind hh)));obtain ⟨⟨h1,Gz,h2⟩,W8,OZ⟩:=hy;refine Rs.A3 (Rs.AE (fun z hz=>?_) (Q1 Gz W8 (OZ.l6.2 Hw) (Rs.all_bind h2)));obtain ⟨⟨h3,Zm,h4⟩,hn2,HL⟩:=hz;exact ⟨h4.1,⟨h3,Zm,h4.2⟩,hn2,OZ.trans HL⟩
theorem j9 (hx:HX e h h') {d:D} (hd:D4 h d):QO h' d=QO h d:=by
 unfold QO;split
 · rfl
 · rfl
 · rfl
 · rename_i id off len N;rw[hx.eq (hd id (by simp[D.ids]))]
 · rfl
def Beh (e h:Hp) (q:Option Nat) (k:D×Hp→Prop) (y:D×Hp):Prop:=(∃CO,HX e y.2 CO∧k (y.1,CO))∧CZ q h y.2
theorem Ank (hx:HX e h h') {q:Nat} {t t2:TypeId} {s x:D} (hs:D4 h s) (hd:D4 h x) {k:D×Hp→Prop} (hh:(Sv P h' q t t2 s x).all k):(Sv P h q t t2 s x).all (Beh e h (some q) k):=by
 unfold Sv at*;split at hh
 case h_2=>exact hh.elim
 split at hh
 case h_2=>exact hh.elim
 rw[j9 hx hd] at hh;refine Rs.A3 (Rs.AE (fun ys hy=>?_) (Rs.all_bind hh));split at hy
 · obtain ⟨⟨a1,a2,a3,a4,a5,a6⟩,hk⟩:=hy;refine ⟨⟨a1,a2,a3,a4,hx.nn' a5,a6⟩,⟨_,hx.cons _ _,hk⟩,fun j hj=>?_⟩;rw[AI] at hj;split at hj
   · rename_i ej;exact .inr (.inl (by rw[ej]))
   · exact .inl hj
 · obtain ⟨⟨a1,a2,a3,a4,a5,a6⟩,hk⟩:=hy;refine ⟨⟨a1,a2,a3,a4,hx.nn' a5,a6⟩,⟨_,hx.cons _ _,hk⟩,fun j hj=>?_⟩;rw[AI] at hj;split at hj
   · rename_i ej;exact .inr (.inl (by rw[ej]))
   · exact .inl hj
 · rename_i id off len N;have hid:=hs id (by simp[D.ids]);rw[hx.eq hid] at hy;obtain ⟨h0,hy⟩:=Mj hy;refine Tg h0 ?_;split at hy
   · exact ⟨hy.1,⟨_,hx.Ae _ _,hy.2⟩,CZ.Ae hid _⟩
   · exact hy.elim
 · rename_i id i len kk;have hid:=hs id (by simp[D.ids]);rw[hx.eq hid] at hy;split at hy
   · obtain ⟨⟨a1,a2,a3,a4,⟨b1,b2,b3,b4,b5,b6⟩,a5⟩,hk⟩:=hy;refine ⟨⟨a1,a2,a3,a4,⟨b1,b2,b3,b4,b5,hx.nn' b6⟩,a5⟩,⟨_,(hx.Ae _ _).cons _ _,hk⟩,fun j hj=>?_⟩;rw[AI] at hj;split at hj
     · rename_i ej;exact .inr (.inl (by rw[ej]))
     · exact CZ.Ae hid _ j hj
   · exact hy.elim
 · exact hy.elim
theorem Ak4 (hx:HX e h h') {q:Nat} {t:TypeId} {s x:D} (hs:D4 h s) (hd:D4 h x) {k:D×Hp→Prop} (hh:(K8 P h' t s x).all k):(K8 P h t s x).all (Beh e h (some q) k):=by
 unfold K8 at*;split at hh
 case h_2=>exact hh.elim
 split at hh
 case h_2=>exact hh.elim
 rw[j9 hx hd] at hh;refine Rs.A3 (Rs.AE (fun ys hy=>?_) (Rs.all_bind hh));split at hy
 case h_2=>exact hy.elim
 rename_i id off len N;have hid:=hs id (by simp[D.ids]);rw[hx.eq hid] at hy;split at hy
 · exact ⟨hy.1,⟨_,hx.Ae _ _,hy.2⟩,CZ.Ae hid _⟩
 · exact hy.elim
theorem PL (a b:List D):Ai (a++b)=Ai a++Ai b:=by
 induction a with
 | nil=>rfl
 | cons d r ih=>simp[Ai,ih]
theorem YG {d:D} {cs:List D} (hs:d.stored=some cs):Ai cs=d.ids:=by
 unfold D.stored at hs;split at hs
 · cases hs;cases d<;>simp[D.cells,D.ids,Ai]
 · cases hs
theorem Ab7 (hx:HX e h h') {t:TypeId} {m i v:D} (hm:D4 h m) {k:Hp→Prop} (hh:(Ic P h' t m i v).all k):
   (Ic P h t m i v).all (fun y=>(∃CO,HX e y CO∧k CO)∧CZ none h y):=by
 unfold Ic at*;split at hh
 · rename_i id key x h0;have hid:=hm id (by simp[D.ids]);rw[hx.eq hid] at hh;split at hh
   · exact ⟨hh.1,⟨_,hx.Ae _ _,hh.2⟩,CZ.Ae hid _⟩
   · exact hh.elim
 · exact hh.elim
theorem US (hx:HX e h h') {id i n:Nat} {v:D} (ha:get h id≠none) (hv:D4 h v) {k:Hp→Prop} (hh:(Dv h' id i n v).all k):
   (Dv h id i n v).all (fun y=>(∃CO,HX e y CO∧k CO)∧CZ none h y):=by
 unfold Dv at*;split at hh
 · rename_i q off len N;have hq:=hv q (by simp[D.ids]);rw[hx.eq hq,hx.eq ha] at hh;split at hh
   · refine ⟨hh.1,⟨_,(hx.Ae _ _).Ae _ _,hh.2⟩,(CZ.Ae ha _).trans (CZ.Ae (JZ.Ae _ _ _ _ hq) _)⟩
   · exact hh.elim
 · exact hh.elim
theorem Aa6 (hx:HX e h h') (hn:GI h) {t:TypeId} {a v:D} (ha:D4 h a) (hv:D4 h v) {k:Hp→Prop} (hh:(H9 P h' t a v).all k):
   (H9 P h t a v).all (fun y=>(∃CO,HX e y CO∧k CO)∧CZ none h y):=by
 unfold H9 at*;split at hh
 case h_2=>exact hh.elim
 split at hh
 case h_2=>exact hh.elim
 rename_i Jp;split at hh
 · rename_i id off;have hid:=ha id (by simp[D.ids]);rw[hx.eq hid] at hh;split at hh
   · exact ⟨hh.1,⟨_,hx.Ae _ _,hh.2⟩,CZ.Ae hid _⟩
   · exact hh.elim
 · rename_i id i c N;have hid:=ha id (by simp[D.ids]);refine Rs.A3 (Rs.AE (fun y hy=>?_) (Q1 hx hn (fun j hj=>hv j (by rw[←YG Jp];exact hj)) (Rs.all_bind hh)));obtain ⟨⟨h1,Gz,hy⟩,W8,OZ⟩:=hy;have Atm:=(OZ id).2 hid;rw[Gz.eq Atm] at hy;split at hy
   · exact ⟨hy.1,⟨_,Gz.Ae _ _,hy.2⟩,fun j hj=>by
       rcases CZ.Ae (q:=none) Atm _ j hj with h3 | h3 | h3
       · exact .inl ((OZ j).1 h3)
       · cases h3
       · exact .inr (.inr h3)⟩
   · exact hy.elim
 · rename_i id i n;have hid:=ha id (by simp[D.ids]);exact Rs.Og (Rs.CI hh).1 (US hx hid hv (Rs.CI hh).2)
 · exact hh.elim
end
end Go.Am
namespace Go.Am
open Go
def isQ (o:Op):Bool:=
 match o with
 | .call c=>match c.callee with
   | .value _=>true
   | .builtin .append | .builtin .copy=>true
   | _=>false
 | .store _ _ _=>true
 | .slice _ _ _ _ _=>true
 | .buildSlice _ _ _=>true
 | .load _ _=>true
 | .mapUpdate _ _ _ _=>true
 | _=>false
section
variable {P:Program} {e h h':Hp}
theorem FQ:∀(l T:List Nat) (id:Nat),id∈Dn T l→id∈T∨id∈l
 | [],T,id,hi=> .inl hi
 | i::r,T,id,hi=>by
   simp only[Dn] at hi;split at hi
   · rcases FQ r T id hi with h1 | h1
     · exact .inl h1
     · exact .inr (by simp[h1])
   · rcases FQ r _ id hi with h1 | h1
     · rcases List.mem_append.1 h1 with h2 | h2
       · exact .inl h2
       · simp only[List.mem_singleton] at h2;exact .inr (by simp[h2])
     · exact .inr (by simp[h1])
theorem Mz (hn:GI h):∀(l:List Nat) (id:Nat),id∈GK h l→get h id≠none
 | [],id,hi=>by simp[GK] at hi
 | i::r,id,hi=>by
   simp only[GK,List.mem_append] at hi;rcases hi with h1 | h1
   · cases ho:get h i with
     | none=>rw[ho] at h1;simp at h1
     | some o=>rw[ho] at h1;exact hn i o ho id h1
   · exact Mz hn r id h1
theorem XT (hn:GI h) {ids:List Nat} (hp:∀id∈ids,get h id≠none):∀id∈B9 h ids,get h id≠none:=by
 intro id hi;unfold B9 at hi;simp only at hi;rcases FQ _ _ _ hi with h0 | h0
 · rcases FQ _ _ _ h0 with h1 | h1
   · rcases FQ _ _ _ h1 with h2 | h2
     · rcases FQ _ _ _ h2 with h3 | h3
       · simp at h3
       · exact hp id h3
     · exact Mz hn _ _ h2
   · exact Mz hn _ _ h1
 · have hg:∀j,id∈ghost h j→get h id≠none:=by
     intro j hj;unfold ghost at hj;split at hj
     · rename_i hgj;simp only[List.mem_singleton] at hj;subst hj;rw[hgj];simp
     · simp at hj
   simp only[O9,List.mem_append] at h0;rcases h0 with h0 | h0 | h0 | h0<;>exact hg _ h0
theorem Xg (hx:HX e h h') {q:Nat}:∀(l:Hp),fresh q h' l→fresh q h l
 | [],_=>trivial
 | (j,_)::r,hf=>⟨hf.1.imp id fun h1=>hx.nn' h1,Xg hx r hf.2⟩
theorem Akb (hx:HX e h h') (he:∀id,get e id≠none→id<10000) (hn:GI h) {f:FuncId} {ds:List D} (hd:DZ h ds) {q:Nat} {k:D→Hp→Prop} (hh:Fx P h' f ds q k):
   Fx P h f ds q (fun d y=>(∃CO,HX e y CO∧k d CO)∧CZ none h y):=by
 have hp:=XT hn hd;have hs:∀id∈B9 h (Ai ds),(get h id).isSome=true:=fun id hi=>by
   have:=hp id hi;cases hg:get h id with
   | none=>exact (this hg).elim
   | some o=>rfl
 unfold Fx at*;rw[Ur hx he _ hs] at hh;obtain ⟨h1,h2,h3⟩:=hh;refine ⟨h1,List.all_eq_true.2 hs,?_⟩;rw[YE hx _ _ _ hs] at h3;refine h3.mono fun h2 r ⟨hf,hk⟩=>⟨Xg hx h2 hf,⟨_,Nz hx _ _ _,hk⟩,?_⟩;intro i hi;have key:∀(l:Hp),get (merge (B9 h (Ai ds)) q h l) i≠none→get h i≠none∨some i=none∨10000≤i:=by
   intro l
   induction l with
   | nil=>intro h4;exact .inl h4
   | cons x r ih=>
     obtain ⟨j,o⟩:=x;intro h4;simp only[merge] at h4;split at h4
     · rename_i id hid;rw[A9] at h4;by_cases ej:i=id
       · subst ej;unfold back at hid;split at hid
         · exact .inl (hp i (List.mem_of_getElem? hid))
         · simp only[Option.some.injEq] at hid;exact .inr (.inr (by omega))
       · rw[if_neg ej] at h4;exact ih h4
     · exact ih h4
 exact key h2 hi
theorem Ak9 {env:List (Nat×D)} {n:Nat} (hx:HX e h h') (hn:GI h) {f:Operand} {args:List Operand} (hf:D4 h (ev ⟨env,h,n⟩ f)) (ha:∀x∈args,D4 h (ev ⟨env,h,n⟩ x))
   {k:FuncId×List D×Hp→Prop} (hh:(EP ⟨env,h',n⟩ f args).all k):
   (EP ⟨env,h,n⟩ f args).all (fun y=>(∃CO,HX e y.2.2 CO∧k (y.1,y.2.1,CO))∧DZ y.2.2 y.2.1∧GI y.2.2∧CV h y.2.2):=by
 have ef:ev ⟨env,h',n⟩=ev ⟨env,h,n⟩:=funext fun _=>rfl;unfold EP at*;rw[ef] at hh;have GL:DZ h (args.map (ev ⟨env,h,n⟩)):=by
   intro id hi;clear hh
   induction args with
   | nil=>simp[Ai] at hi
   | cons x r ih=>
     simp only[List.map_cons,Ai,List.mem_append] at hi;rcases hi with h1 | h1
     · exact ha x (by simp) id h1
     · exact ih (fun y hy=>ha y (by simp[hy])) h1
 split at hh
 · rename_i g cap he;rw[he] at hf;have B4:DZ h (args.map (ev ⟨env,h,n⟩)++cap):=by
     intro id hi;rw[PL,List.mem_append] at hi;rcases hi with h1 | h1
     · exact GL id h1
     · exact hf id h1
   refine Rs.A3 (Rs.AE (fun y hy=>?_) (LI hx hn B4 (Rs.all_bind hh)));obtain ⟨⟨h1,Gz,h2⟩,hp1,W8,OZ⟩:=hy;exact ⟨h2.1,⟨h1,Gz,h2.2⟩,OZ.l6.2 hp1,W8,OZ⟩
 · exact hh.elim
theorem BH (st:St) (t:Option Nat) (d:D):(st.put t d).hp=st.hp:=by
 cases t with
 | none=>rfl
 | some t=>simp only[St.put];split<;>rfl
theorem Q0 {K:St→Prop} {env:List (Nat×D)} {n:Nat} {dst:Option Nat} (y h2:Hp) (d:D) (hk:K ((⟨env,h2,n⟩:St).put dst d)):K {(⟨env,y,n⟩:St).put dst d with hp:=h2}:=by
 cases dst with
 | none=>exact hk
 | some t=>
   simp only[St.put] at hk ⊢;split
   · rename_i ht;rw[if_pos ht] at hk;exact hk
   · rename_i ht;rw[if_neg ht] at hk;exact hk
theorem Aec (d:D):Ai d.cells=d.ids:=by cases d<;>simp[D.cells,D.ids,Ai]
theorem Ru {l:List D} {d:D} (h:d∈l):∀i∈d.ids,i∈Ai l:=by
 induction l with
 | nil=>cases h
 | cons x r ih=>
   intro i hi;simp only[Ai,List.mem_append];rcases List.mem_cons.1 h with rfl | h
   · exact .inl hi
   · exact .inr (ih h i hi)
theorem OV {l:List D} {i:Nat}:i∈Ai l→∃d∈l,i∈d.ids:=by
 induction l with
 | nil=>intro h;simp[Ai] at h
 | cons x r ih=>
   intro h;simp only[Ai,List.mem_append] at h;rcases h with h | h
   · exact ⟨x,by simp,h⟩
   · obtain ⟨d,hd,hi⟩:=ih h;exact ⟨d,by simp[hd],hi⟩
theorem RT {h:Hp} {place:Nat→Option (Nat×Nat)}:∀(ps:List (Nat×D)) (cells cs:List D),(∀x∈ps,D4 h x.2)→DZ h cells→Ee place cells ps=some cs→DZ h cs
 | [],cells,cs,_,hc,hf=>by simp only[Ee,Option.some.injEq] at hf;subst hf;exact hc
 | (i,d)::r,cells,cs,hp,hc,hf=>by
   simp only[Ee] at hf;split at hf
   · cases hf
   · split at hf
     · refine RT r _ cs (fun x hx=>hp x (by simp[hx])) ?_ hf;intro id hi;obtain ⟨d2,Hw,C0⟩:=OV hi;rcases List.mem_append.1 Hw with h1 | h1
       · rcases List.mem_append.1 h1 with h2 | h2
         · exact hc id (Ru (List.mem_of_mem_take h2) id C0)
         · have:=Ru h2 id C0;rw[Aec] at this;exact hp (i,d) (by simp) id this
       · exact hc id (Ru (List.mem_of_mem_drop h1) id C0)
     · cases hf
theorem Ap2 {env:List (Nat×D)} {n:Nat} (hx:HX e h h') (he:∀id,get e id≠none→id<10000) (hn:GI h) {o:Oper} (hq:isQ o.op=true) (ho:∀x∈o.op.operands.toList,D4 h (ev ⟨env,h,n⟩ x)) {K:St→Prop} (hh:OA P false o K ⟨env,h',n⟩):
   OA P false o (fun st=>(∃CO,HX e st.hp CO∧K {st with hp:=CO})∧CZ (some (o.dst.getD 0)) h st.hp) ⟨env,h,n⟩:=by
 have ef:ev ⟨env,h',n⟩=ev ⟨env,h,n⟩:=funext fun _=>rfl;unfold OA at*;split at hh
 · rename_i f args hc;rcases Rs.DL hh with hh | hh
   case inr=>exact (Bool.false_ne_true hh.1).elim
   have II:(∀x∈f::args,x∈o.op.operands.toList):=by
     unfold Bz at hc;split at hc
     case h_2=>cases hc
     rename_i cl Ot;split at hc
     case h_2=>cases hc
     rename_i f' Zy;simp only[Option.some.injEq,Prod.mk.injEq] at hc;obtain ⟨rfl,rfl⟩:=hc;intro x hxm;rw[Ot];simp[Op.operands,Call.operands,Zy] at hxm ⊢;exact hxm
   simp only[JE] at hh ⊢;refine Rs.C9 (Rs.AE (fun x Jo=>?_) (Ak9 hx hn (ho f (II f (by simp))) (fun x Zm=>ho x (II x (by simp[Zm]))) hh));obtain ⟨⟨h1,Gz,hc⟩,hp1,W8,OZ⟩:=Jo;refine MT (fun d y hy=>?_) (Akb Gz he W8 hp1 hc);obtain ⟨⟨h2,Jo,hk⟩,KQ⟩:=hy;refine ⟨⟨h2,by rw[BH];exact Jo,Q0 _ _ _ hk⟩,fun i hi=>?_⟩;rw[BH] at hi;rcases KQ i hi with h3 | h3 | h3
   · exact .inl ((OZ i).1 h3)
   · cases h3
   · exact .inr (.inr h3)
 · rcases Rs.DL hh with hh | hh
   case inr=>exact (Bool.false_ne_true hh.1).elim
   have fin:∀{r:Rs (D×Hp)},r.all (Beh e h (some (o.dst.getD 0)) fun x=>K ((⟨env,x.2,n⟩:St).put o.dst x.1))→
       r.HG (false=true∧Me P o (fun st=>(∃CO,HX e st.hp CO∧K {st with hp:=CO})∧CZ (some (o.dst.getD 0)) h st.hp) ⟨env,h,n⟩) (fun x=>(fun st:St=>(∃CO,HX e st.hp CO∧K {st with hp:=CO})∧CZ (some (o.dst.getD 0)) h st.hp) ((⟨env,x.2,n⟩:St).put o.dst x.1)):=fun hr=>
     Rs.C9 (Rs.AE (fun x Jo=>by
       obtain ⟨⟨h1,Gz,hk⟩,KQ⟩:=Jo;exact ⟨⟨h1,by rw[BH];exact Gz,Q0 _ _ _ hk⟩,by rw[BH];exact KQ⟩) hr)
   refine fin ?_;cases II:o.op with
   | call cl=>
     cases Ot:cl.callee with
     | builtin b=>
       cases b<;>rw[II] at hq<;>simp only[isQ,Ot,Bool.false_eq_true] at hq
       · simp only[Ij,II,Ot,ef] at hh ⊢;have GL:∀x∈cl.args.toList,D4 h (ev ⟨env,h,n⟩ x):=fun x Zm=>ho x (by rw[II];simp[Op.operands,Call.operands,Ot];simpa using Zm);generalize hl:cl.args.toList.map (ev ⟨env,h,n⟩)=l at hh ⊢;rcases l with _ | ⟨s,_ | ⟨x,_ | ⟨z,r⟩⟩⟩
         · exact hh.elim
         · cases s<;>first | exact hh.elim | (rename_i z;cases z<;>exact hh.elim)
         · obtain ⟨sq,xq,Fk,rfl,rfl⟩:=F7 hl;have hb3:∀hz:Hp,C7 P ⟨env,hz,n⟩ (o.dst.getD 0) .append cl.argTypes [ev ⟨env,h,n⟩ sq,ev ⟨env,h,n⟩ xq]=match cl.argTypes[0]?,cl.argTypes[1]? with
             | some t,some t2=>Sv P hz (o.dst.getD 0) t t2 (ev ⟨env,h,n⟩ sq) (ev ⟨env,h,n⟩ xq)
             | _,_=> .fail:=fun _=>rfl
           rw[hb3] at hh ⊢;split at hh
           · rename_i t t2 h1 h2;exact Ank hx (GL sq (by rw[Fk];simp)) (GL xq (by rw[Fk];simp)) hh
           · exact hh.elim
         · first | exact hh.elim | (cases s<;>first | exact hh.elim | (rename_i z1;cases z1<;>exact hh.elim))
       · simp only[Ij,II,Ot,ef] at hh ⊢;have GL:∀x∈cl.args.toList,D4 h (ev ⟨env,h,n⟩ x):=fun x Zm=>ho x (by rw[II];simp[Op.operands,Call.operands,Ot];simpa using Zm);generalize hl:cl.args.toList.map (ev ⟨env,h,n⟩)=l at hh ⊢;rcases l with _ | ⟨s,_ | ⟨x,_ | ⟨z,r⟩⟩⟩
         · exact hh.elim
         · cases s<;>first | exact hh.elim | (rename_i z;cases z<;>exact hh.elim)
         · obtain ⟨sq,xq,Fk,rfl,rfl⟩:=F7 hl;have hb3:∀hz:Hp,C7 P ⟨env,hz,n⟩ (o.dst.getD 0) .copy cl.argTypes [ev ⟨env,h,n⟩ sq,ev ⟨env,h,n⟩ xq]=match cl.argTypes[0]?,cl.argTypes[1]? with
             | some t,some _=>K8 P hz t (ev ⟨env,h,n⟩ sq) (ev ⟨env,h,n⟩ xq)
             | _,_=> .fail:=fun _=>rfl
           rw[hb3] at hh ⊢;split at hh
           · rename_i t t2 h1 h2;exact Ak4 hx (GL sq (by rw[Fk];simp)) (GL xq (by rw[Fk];simp)) hh
           · exact hh.elim
         · first | exact hh.elim | (cases s<;>first | exact hh.elim | (rename_i z1;cases z1<;>exact hh.elim))
     | _=>rw[II] at hq;rename_i hc _;simp only[isQ,Ot,Bool.false_eq_true] at hq<;>simp_all [Bz]
   | store t a v=>
     simp only[Ij,II,Jj,ef] at hh ⊢;have h1:=Aa6 hx hn (ho a (by rw[II];simp[Op.operands])) (ho v (by rw[II];simp[Op.operands])) (Rs.all_bind hh);refine Rs.A3 (Rs.AE (fun y hy=>?_) h1);obtain ⟨⟨h2,Jo,hk⟩,KQ⟩:=hy;refine ⟨hk.1,⟨h2,Jo,hk.2⟩,fun i hi=>?_⟩;rcases KQ i hi with h3 | h3 | h3
     · exact .inl h3
     · cases h3
     · exact .inr (.inr h3)
   | slice t x lo hi mx=>
     have hp:=ho x (by rw[II];simp[Op.operands]);have hsl:FA P ⟨env,h',n⟩ t (ev ⟨env,h,n⟩ x) lo hi mx=FA P ⟨env,h,n⟩ t (ev ⟨env,h,n⟩ x) lo hi mx:=by
       have hb:∀o d,Cu ⟨env,h',n⟩ o d=Cu ⟨env,h,n⟩ o d:=fun o d=>by cases o<;>rfl
       generalize ev ⟨env,h,n⟩ x=d at hp;unfold FA;simp only[hb];rcases AT P t with _ | ⟨s1,b1,k1,z1⟩
       · rfl
       cases k1 with
       | string=>cases d with
         | p y=>cases y<;>rfl
         | _=>rfl
       | slice e=>
         simp only;cases AT P e with
         | none=>rfl
         | some ti=>cases d with
           | p y=>cases y<;>rfl
           | ref id off len N=>
             have:sg h' id=sg h id:=by simp only[sg,hx.eq (hp id (by simp[D.ids]))]
             simp only[this]
           | _=>rfl
       | _=>rfl
     simp only[Ij,II,H7,ef] at hh ⊢;rw[hsl] at hh;have h1:=Rs.all_bind hh;refine Rs.A3 (Rs.AE (fun y hy=>?_) h1);exact ⟨hy.1,⟨h',hx,hy.2⟩,CZ.refl _ _⟩
   | buildSlice t n2 ps=>
     have hps:∀x∈ps.toList.map (fun q=>(q.1,ev ⟨env,h,n⟩ q.2)),D4 h x.2:=fun x Zm=>by
       obtain ⟨q,hq3,rfl⟩:=List.mem_map.1 Zm;exact ho q.2 (by rw[II];simp[Op.operands];exact ⟨q.1,by simpa using hq3⟩)
     simp only[Ij,II,Jj,ef] at hh ⊢;split at hh
     · split at hh
       · split at hh
         · rename_i cs Zz;have hpc:DZ h cs:=RT _ _ _ hps (fun id hi=>by
             obtain ⟨d2,Hw,C0⟩:=OV hi;rw[List.mem_replicate] at Hw;rw[Hw.2] at C0;simp[D.ids] at C0) Zz
           split at hh
           · exact hh.elim
           rename_i hnr;rw[if_neg hnr];refine Rs.A3 (Rs.AE (fun y hy=>?_) (Q1 hx hn hpc (Rs.all_bind hh)));obtain ⟨⟨h2,Jo,hk⟩,hn2,HL⟩:=hy;refine ⟨⟨hk.1.1,hk.1.2.1,Jo.nn' hk.1.2.2⟩,⟨_,Jo.cons _ _,hk.2⟩,fun i hi=>?_⟩;rw[AI] at hi;split at hi
           · rename_i ej;exact .inr (.inl (by rw[ej]))
           · exact .inl ((HL i).1 hi)
         · exact hh.elim
       · exact hh.elim
     · exact hh.elim
   | mapUpdate t m i x=>
     simp only[Ij,II,Jj,ef] at hh ⊢;have h1:=Ab7 hx (ho m (by rw[II];simp[Op.operands])) (Rs.all_bind hh);refine Rs.A3 (Rs.AE (fun y hy=>?_) h1);obtain ⟨⟨h2,Jo,hk⟩,KQ⟩:=hy;refine ⟨hk.1,⟨h2,Jo,hk.2⟩,fun i hi=>?_⟩;rcases KQ i hi with h3 | h3 | h3
     · exact .inl h3
     · cases h3
     · exact .inr (.inr h3)
   | load t a=>
     have hp:=ho a (by rw[II];simp[Op.operands]);simp only[Ij,II,H7,ef] at hh ⊢;rw[Agn hx hp] at hh;have h1:=Rs.all_bind hh;refine Rs.A3 (Rs.AE (fun y hy=>?_) h1);exact ⟨hy.1,⟨h',hx,hy.2⟩,CZ.refl _ _⟩
   | _=>rw[II] at hq;simp[isQ] at hq
end
end Go.Am
namespace Go.Am
open Go
mutual
def P8 (h:Hp):D→D→Prop
  | .p x,d=>d= .p x
  | .cl es,d=>d= .p (.sl es)
  | .ref id off len N,d=>match get h id with
    | some (.arr _ _ es)=>N=es.length∧d= .p (.sl ((es.drop off).take len))
    | some (.J3 _ es)=>N=es.length∧d= .p (.sl ((es.drop off).take len))
    | _=>False
  | .BS id n,d=>match get h id with
    | some (.BP _ _ _ _ rows none)=>n=rows.length∧d= .p (.sl (rows.map fun r=>[.sl r]))
    | _=>False
  | .nr id i len k,d=>match get h id with
    | some (.BP _ _ _ k2 rows none)=>(k=k2∧i<rows.length∧len=(rows.getD i []).length)∧d= .p (.sl (rows.getD i []))
    | _=>False
  | .agg cs,.agg cs'=>HI h cs cs'
  | .fn f cap,.fn f' Ak8=>f'=f∧HI h cap Ak8
  | _,_=>False
def HI (h:Hp):List D→List D→Prop
  | [],[]=>True
  | d::r,d'::r'=>P8 h d d'∧HI h r r'
  | _,_=>False
end
def D.T7:D→Bool
 | .p x=>x.flat
 | _=>false
def D.flat:D→Bool
 | .p x=>x.flat
 | .BA cs=>cs.all D.T7
 | .agg cs=>cs.all D.T7
 | _=>false
mutual
def D.Fo:D→D
  | .p x=>if x.flat then .p x else .Pu
  | .agg cs=> .agg (Gm cs)
  | .BA cs=> .BA (Gm cs)
  | _=> .bad
def Gm:List D→List D
  | []=>[]
  | d::r=>d.Fo::Gm r
end
theorem Ml:∀cs:List D,(Gm cs).length=cs.length
 | []=>rfl
 | _::r=>by simp[Gm,Ml r]
theorem Mm:∀(cs:List D) (i:Nat),(Gm cs)[i]?=(cs[i]?).map D.Fo
 | [],i=>by simp[Gm]
 | d::r,0=>by simp[Gm]
 | d::r,i+1=>by simp[Gm,Mm r i]
theorem PA:∀{d:D},d.T7=true→d.Fo=d
 | .p x,h=>by simp only[D.T7] at h;simp[D.Fo,h]
 | .agg _,h | .BA _,h | .cl _,h | .cz _,h | .ref _ _ _ _,h | .ptr _ _,h | .pe _,h | .ea _ _ _ _,h | .fn _ _,h | .np,h | .mv _,h | .BS _ _,h | .J6 _ _ _,h | .nr _ _ _ _,h | .Pu,h | .bad,h=>by simp[D.T7] at h
theorem Kh:∀{cs:List D},cs.all D.T7=true→Gm cs=cs
 | [],_=>rfl
 | d::r,h=>by
   simp only[List.all_cons,Bool.and_eq_true] at h;simp[Gm,PA h.1,Kh h.2]
theorem QT {d:D} (h:d.flat=true):d.Fo=d:=by
 cases d with
 | p x=>exact PA h
 | agg cs=>simp only[D.flat] at h;simp[D.Fo,Kh h]
 | BA cs=>simp only[D.flat] at h;simp[D.Fo,Kh h]
 | _=>simp[D.flat] at h
section
variable {F F':Nat→Prop} {w w':World} {M M':Nat→Mb} {s s':Nat→Option Sg} {h h' e:Hp}
theorem DR.Fo {d:D} {v:Value} (hr:DR F w M s d v):DR F' w' M' s' d.Fo v:=by
 induction hr with
 | p hp=>
   simp only[D.Fo];split
   · rename_i hf;cases hp with
     | int k n=>exact .p (.int k n)
     | bool b=>exact .p (.bool b)
     | str l=>exact .p (.str l)
     | Tk a cap=>simp[Pd.flat] at hf
     | sl es b off cap sz row t fr _ _ _ _ _ _=>simp[Pd.flat] at hf
   · exact .Pu _ hp.HY
 | agg cs vs hl hc ih=>
   simp only[D.Fo];refine .agg _ vs (by rw[Ml];exact hl) fun i c hi=>?_;rw[Mm] at hi;cases hg:cs[i]? with
   | none=>rw[hg] at hi;cases hi
   | some x=>rw[hg] at hi;cases hi;exact ih i x hg
 | BA cs vs hl hc ih=>
   simp only[D.Fo];refine .BA _ vs (by rw[Ml];exact hl) fun i c hi=>?_;rw[Mm] at hi;cases hg:cs[i]? with
   | none=>rw[hg] at hi;cases hi
   | some x=>rw[hg] at hi;cases hi;exact ih i x hg
 | _=>simp only[D.Fo];exact .bad _
def u0 (F:Nat→Prop) (M:Nat→Mb) (h:Hp):Nat→Prop:=fun b=>F b∨CL M h b
mutual
theorem Aeu (hr:HR F w M h):∀(d d':D) {v:Value},DR F w M (sg h) d v→P8 h d d'→DR (u0 F M h) w M (sg []) d' v
  | .p x,d',v,hd,hb=>by
    simp only[P8] at hb;subst hb;cases hd with | p hp=>exact .p (hp.keep (fun _ _=>rfl) fun b hb=> .inl hb)
  | .cl es,d',v,hd,hb=>by
    simp only[P8] at hb;subst hb;cases hd with | cl _ ad hp _=>exact .p (hp.keep (fun _ _=>rfl) fun b hb=> .inl hb)
  | .ref id off len N,d',v,hd,hb=>by
    simp only[P8] at hb;cases hd with | ref _ _ _ _ sz n _ hs hN hv hx=>
      split at hb
      · rename_i t M3 es ho;obtain ⟨Ou,rfl⟩:=hb;have:M3=sz∧es.length=n:=by simpa [sg,ho,AO.sg] using hs
        obtain ⟨rfl,rfl⟩:=this;exact .p (HT (st:=⟨[],h,0⟩) hr (.inl ⟨t,ho⟩) rfl (hx Ou) (fun b hb=> .inl hb) fun hc=> .inr ⟨id,_,ho,hc,rfl⟩)
      · rename_i M3 es ho;obtain ⟨Ou,rfl⟩:=hb;have:M3=sz∧es.length=n:=by simpa [sg,ho,AO.sg] using hs
        obtain ⟨rfl,rfl⟩:=this;have hob:=hr.obj id _ ho;exact .p (HT (st:=⟨[],h,0⟩) hr (.inr ho) rfl (hx Ou) (fun b hb=> .inl hb) fun hc=> .inl (hob.2.2.2 hc).1)
      · exact hb.elim
  | .BS id n,d',v,hd,hb=>by
    simp only[P8] at hb;cases hd with | BS _ _ sz m k _ hs hN hv hx=>
      split at hb
      · rename_i t e2 M3 k2 rows ho;obtain ⟨Ou,rfl⟩:=hb;have:M3=sz∧rows.length=m∧k2=k:=by simpa [sg,ho,AO.sg] using hs
        obtain ⟨rfl,rfl,rfl⟩:=this;refine .p ((Ng (st:=⟨[],h,0⟩) hr ho (by have:=hx Ou;rwa[Ou] at this)).keep (fun _ _=>rfl) fun b hb=>?_);rcases hb with hb | hb
        · exact .inl hb
        · exact .inr ⟨id,_,ho,hb⟩
      · exact hb.elim
  | .nr id i len q,d',v,hd,hb=>by
    simp only[P8] at hb;cases hd with | nr _ _ _ _ sz m k _ hs hN hv hx=>
      split at hb
      · rename_i t e2 M3 k2 rows ho;obtain ⟨⟨Ou,SI,hb3⟩,rfl⟩:=hb;have:M3=sz∧rows.length=m∧k2=k:=by simpa [sg,ho,AO.sg] using hs
        obtain ⟨rfl,rfl,rfl⟩:=this;obtain ⟨bc,g1,g2,a,g3,g4⟩:=hx Ou;have hn:FR F w (M id) t e2 M3 rows none:=hr.obj id _ ho;have hg:rows[i]?=some (rows.getD i []):=by simp[List.getD,SI]
        subst g3;rw[hb3];exact .p ((hn.rows i _ bc hg g1 (by simp)).pure (fun b hb=> .inl hb) (fun hc=> .inr ⟨id,_,ho,.inr ⟨i,bc,g1,hc,rfl⟩⟩) g4)
      · exact hb.elim
  | .agg cs,.agg cs',v,hd,hb=>by
    simp only[P8] at hb;cases hd with | agg _ vs hl hc=>
      have h1:=JM hr cs cs' (vs:=vs.toList) (by simpa using hl) (fun i e he=>by have:=hc i e he;simpa [List.getD,Array.getD_eq_getD_getElem?] using this) hb;exact .agg _ vs (by have:=h1.1;simpa using this) (fun i e he=>by have:=h1.2 i e he;simpa [List.getD,Array.getD_eq_getD_getElem?] using this)
  | .fn f cap,.fn f' Ak8,v,hd,hb=>by
    simp only[P8] at hb;obtain ⟨rfl,hb⟩:=hb;cases hd with | fn _ _ vs hl hc=>
      have h1:=JM hr cap Ak8 (vs:=vs.toList) (by simpa using hl) (fun i e he=>by have:=hc i e he;simpa [List.getD,Array.getD_eq_getD_getElem?] using this) hb;exact .fn _ _ vs (by have:=h1.1;simpa using this) (fun i e he=>by have:=h1.2 i e he;simpa [List.getD,Array.getD_eq_getD_getElem?] using this)
theorem JM (hr:HR F w M h):∀(ds XD:List D) {vs:List Value},vs.length=ds.length→(∀(i:Nat) c,ds[i]?=some c→DR F w M (sg h) c (vs.getD i undef))→HI h ds XD→G0 (u0 F M h) w M (sg []) XD vs
  | [],[],vs,hl,_,_=>⟨hl,fun i c hi=>by simp at hi⟩
  | d::r,d'::r',vs,hl,hc,hb=>by
    simp only[HI] at hb;rcases vs with _ | ⟨x,vs⟩
    · simp at hl
    have h0:=Aeu hr d d' (v:=x) (by simpa using hc 0 d rfl) hb.1;have h1:=JM hr r r' (vs:=vs) (by simpa using hl) (fun i c hi=>by simpa using hc (i+1) c (by simpa using hi)) hb.2;refine ⟨by simp[h1.1],fun i c hi=>?_⟩;rcases i with _ | i
    · simp at hi;subst hi;simpa using h0
    · simpa using h1.2 i c (by simpa using hi)
end
mutual
theorem Aev:∀(d d':D),(∀id∈d.ids,get h' id=get h id)→P8 h d d'→P8 h' d d'
  | .p x,d',_,hb=>by simp only[P8] at hb ⊢;exact hb
  | .cl es,d',_,hb=>by simp only[P8] at hb ⊢;exact hb
  | .ref id off len N,d',hg,hb=>by simp only[P8] at hb ⊢;rw[hg id (by simp[D.ids])];exact hb
  | .BS id n,d',hg,hb=>by simp only[P8] at hb ⊢;rw[hg id (by simp[D.ids])];exact hb
  | .nr id i len q,d',hg,hb=>by simp only[P8] at hb ⊢;rw[hg id (by simp[D.ids])];exact hb
  | .agg cs,.agg cs',hg,hb=>by simp only[P8] at hb ⊢;exact HH cs cs' (fun id hi=>hg id (by simpa [D.ids] using hi)) hb
  | .fn f cap,.fn f' Ak8,hg,hb=>by simp only[P8] at hb ⊢;exact ⟨hb.1,HH cap Ak8 (fun id hi=>hg id (by simpa [D.ids] using hi)) hb.2⟩
theorem HH:∀(ds XD:List D),(∀id∈Ai ds,get h' id=get h id)→HI h ds XD→HI h' ds XD
  | [],[],_,_=>by simp only[HI]
  | d::r,d'::r',hg,hb=>by
    simp only[HI] at hb ⊢;exact ⟨Aev d d' (fun id hi=>hg id (by simp[Ai,hi])) hb.1,HH r r' (fun id hi=>hg id (by simp[Ai,hi])) hb.2⟩
end
end
def Sz (P:Program) (o:Oper) (K:St→Prop) (st:St):Prop:=
 ∃(f:Operand) (args:List Operand) (g:FuncId) (cap ds:List D),Bz o.op=some (f,args)∧ev st f= .fn g cap∧HI st.hp (args.map (ev st)++cap) ds∧
   Aj P g ds [] fun h r=>h=[]∧K (st.put o.dst r.Fo)
section
variable {P:Program} {c:Ctx} {st st':St} {a:Act} {w:World} {F:Nat→Prop} {M:Nat→Mb} {o:Oper} {K K':St→Prop}
theorem Rel.Y5 (hr:Rel c st a w F M) {v:Value} {w':World} {F':Nat→Prop} {M':Nat→Mb} {d:D} (hd:DR F' w' M' (sg []) d v) (hk:Akt ⟨w,u0 F M st.hp,CL M [],M,sg []⟩ w' F' M' []):
   Rel c st a w' F M∧DR F w' M (sg st.hp) d.Fo v:=by
 have M5:∀b,¬CL M [] b:=by rintro b ⟨id,o,ho,_⟩;simp[get] at ho
 have hold:∀b,b<w.heap.size→w'.heap[b]?=w.heap[b]?:=fun b hb=>hk.J5 b hb (M5 b);have CD:w.heap.size≤w'.heap.size:=hk.size;have hF:∀b,F b→w'.heap[b]?=w.heap[b]?:=fun b hb=>hold b (hr.keep.Fl b hb);have hO:∀b,CL M st.hp b→w'.heap[b]?=w.heap[b]?:=fun b hb=>hold b (hr.heap.lt hb);refine ⟨⟨fun t d ht=>(hr.env t d ht).keep hF (fun _ h=>h) (Ba.refl _ _),hr.size,hr.defers,hr.heap.keep hF hO,?_⟩,hd.Fo⟩;have Ex:=hr.keep;exact ⟨hk.os.trans Ex.os,hk.tape.trans Ex.tape,hk.output.trans Ex.output,Nat.le_trans Ex.size CD,fun b hb hO=>(hold b (Nat.lt_of_lt_of_le hb Ex.size)).trans (Ex.J5 b hb hO),Ex.F0,Ex.Fn,
   fun b hb=>Nat.lt_of_lt_of_le (Ex.Fl b hb) CD,Ex.own,Ex.Tm,Ex.YN⟩
theorem MX (hr:Rel c st a w F M) (hb:Sz P o K st) (Q:Exit→Act→World→Prop):o.wp P a w (Good c K) Q:=by
 obtain ⟨f,args,g,cap,ds,ho,hg,Ahm,KS⟩:=hb;unfold Bz at ho;split at ho
 case h_2=>cases ho
 rename_i cl II;split at ho
 case h_2=>cases ho
 rename_i f' hf;simp only[Option.some.injEq,Prod.mk.injEq] at ho;obtain ⟨rfl,rfl⟩:=ho;have hfv:=AF hr f';rw[hg] at hfv;generalize hvf:a.eval f'=vf at hfv;cases hfv with
 | fn _ _ Sh hl hc=>
   have GL:=(Pc hr cl.args.toList).append (cs':=cap) (vs':=Sh.toList) ⟨by simpa using hl,fun i e he=>by have:=hc i e he;simpa [List.getD,Array.getD_eq_getD_getElem?] using this⟩;have VX:=JM hr.heap _ _ GL.1 GL.2 Ahm;have W3:=KS (cl.args.map a.eval++Sh) w (u0 F M st.hp) M ⟨fun id o ho=>by simp[get] at ho,fun id o MA o' b ho=>by simp[get] at ho⟩
     (fun b hb=>hb.elim (hr.keep.Fl b) hr.heap.lt) (fun id hid=>by simp[sg,get] at hid) (by simpa using VX)
   rcases W3 with ⟨Fc,Jt⟩ | ⟨v,w',FH,Qd⟩
   · have BW:(execOp a.eval o).run P w= .ok (.enter g (cl.args.map a.eval++Sh)) w:=by
       simp only[execOp,II,hf,resolve,hvf,Deferred.ofValue,Sem.run_bind,Sem.run_pure,Result.andThen_ok,invoke,Array.empty_append];exact Fc
     unfold Oper.wp;rw[BW];refine Jt.mono ?_;rintro e w' ⟨v,h',r,F2,M2,rfl,⟨rfl,hk⟩,_,hd,Fu⟩;obtain ⟨Fa,Hw⟩:=hr.Y5 hd Fu;exact ⟨_,F,M,hk,Fa.put Hw o.dst⟩
   · have BW:(execOp a.eval o).run P w= .ok (.value v) w':=by
       simp only[execOp,II,hf,resolve,hvf,Deferred.ofValue,Sem.run_bind,Sem.run_pure,Result.andThen_ok,invoke,Array.empty_append];exact FH
     obtain ⟨v2,h',r,F2,M2,Qu,⟨rfl,hk⟩,_,hd,Fu⟩:=Qd;cases Qu;obtain ⟨Fa,Hw⟩:=hr.Y5 hd Fu;unfold Oper.wp;rw[BW];exact ⟨_,F,M,hk,Fa.put Hw o.dst⟩
theorem Rn {f:Operand} {args:List Operand} (hc:Bz o.op=some (f,args)):∀x∈f::args,x∈o.op.operands.toList:=by
 unfold Bz at hc;split at hc
 case h_2=>cases hc
 rename_i cl Ot;split at hc
 case h_2=>cases hc
 rename_i f' Zy;simp only[Option.some.injEq,Prod.mk.injEq] at hc;obtain ⟨rfl,rfl⟩:=hc;intro x hxm;rw[Ot];simp[Op.operands,Call.operands,Zy] at hxm ⊢;exact hxm
theorem Sy (h:∀x∈o.op.operands.toList,ev st' x=ev st x) (hp:∀id,get st'.hp id=get st.hp id) (hK:∀d,K (st.put o.dst d)→K' (st'.put o.dst d)) (hb:Sz P o K st):Sz P o K' st':=by
 obtain ⟨f,args,g,cap,ds,ho,hg,Ahm,KS⟩:=hb;have hx:=Rn ho;have GL:args.map (ev st')=args.map (ev st):=List.map_congr_left fun x Jo=>h x (hx x (by simp[Jo]));refine ⟨f,args,g,cap,ds,ho,(h f (hx f (by simp))).trans hg,?_,KS.mono fun h' r hr=>⟨hr.1,hK _ hr.2⟩⟩;rw[GL];exact HH _ _ (fun id _=>hp id) Ahm
theorem Ao3 {env:List (Nat×D)} {n:Nat} {e h h':Hp} (hx:HX e h h') (ho:∀x∈o.op.operands.toList,D4 h (ev ⟨env,h,n⟩ x)) (hb:Sz P o K ⟨env,h',n⟩):
   Sz P o (fun st=>(∃CO,HX e st.hp CO∧K {st with hp:=CO})∧CZ (some (o.dst.getD 0)) h st.hp) ⟨env,h,n⟩:=by
 obtain ⟨f,args,g,cap,ds,hc,hg,Ahm,KS⟩:=hb;have Ata:=Rn hc;refine ⟨f,args,g,cap,ds,hc,hg,?_,KS.mono fun h2 r hr=>⟨hr.1,⟨h',by rw[BH];exact hx,Q0 _ _ _ hr.2⟩,fun i hi=>by rw[BH] at hi;exact .inl hi⟩⟩;refine HH _ _ (fun id hid=>?_) Ahm;rw[PL,List.mem_append] at hid;have L8:get h id≠none:=by
   rcases hid with h1 | h1
   · obtain ⟨d,hd,hi⟩:=OV h1;obtain ⟨x,Jo,rfl⟩:=List.mem_map.1 hd;exact ho x (Ata x (by simp[Jo])) id hi
   · have h3:=ho f (Ata f (by simp)) id;have e2:ev ⟨env,h,n⟩ f= .fn g cap:=hg;rw[e2] at h3;exact h3 (by simpa [D.ids] using h1)
 exact (hx.eq L8).symm
def V6 (P:Program) (o:Oper) (K:St→Prop) (st:St):Prop:=OA P false o K st∨Sz P o K st
theorem w8 (hr:Rel c st a w F M) (h:V6 P o K st) (Q:Exit→Act→World→Prop):o.wp P a w (Good c K) Q:=h.elim (fun h=>Ox hr h Q) fun h=>MX hr h Q
end
end Go.Am
namespace Go.Am
open Go
structure I2 (st st':St):Prop where
 n:st'.n=st.n
 env:∀t,get st'.env t=get st.env t
 hp:∀id,get st'.hp id=get st.hp id
theorem I2.refl (st:St):I2 st st:=⟨rfl,fun _=>rfl,fun _=>rfl⟩
theorem I2.symm {a b:St} (h:I2 a b):I2 b a:=⟨h.n.symm,fun t=>(h.env t).symm,fun t=>(h.hp t).symm⟩
theorem I2.trans {a b c:St} (h:I2 a b) (h':I2 b c):I2 a c:=⟨h'.n.trans h.n,fun t=>(h'.env t).trans (h.env t),fun t=>(h'.hp t).trans (h.hp t)⟩
theorem Rel.eqv {c:Ctx} {st st':St} {a:Act} {w:World} {F:Nat→Prop} {M:Nat→Mb} (hr:Rel c st a w F M) (h:I2 st st'):Rel c st' a w F M:=by
 have hs:sg st'.hp=sg st.hp:=funext fun id=>by unfold sg;rw[h.hp]
 refine ⟨fun t d ht=>?_,by rw[h.n];exact hr.size,hr.defers,?_,?_⟩
 · rw[hs];exact hr.env t d (by rw[←h.env];exact ht)
 · exact ⟨fun id o ho=>by rw[hs];exact hr.heap.obj id o (by rw[←h.hp];exact ho),fun id o MA o' b ho Lv=>hr.heap.inj id o MA o' b (by rw[←h.hp];exact ho) (by rw[←h.hp];exact Lv)⟩
 · have hk:=hr.keep;exact ⟨hk.os,hk.tape,hk.output,hk.size,hk.J5,hk.F0,hk.Fn,hk.Fl,fun b ⟨id,o,ho,h1⟩=>hk.own b ⟨id,o,by rw[←h.hp];exact ho,h1⟩,by rw[hs];exact hk.Tm,hk.YN⟩
def Qm (K:St→Prop):Prop:=∀st st',I2 st st'→K st→K st'
def Arb (K:St→Prop):St→Prop:=fun st=>∃st',I2 st st'∧K st'
theorem Qm.of (K:St→Prop):Qm (Arb K):=fun _ _ h ⟨s,h1,h2⟩=>⟨s,h.symm.trans h1,h2⟩
theorem Vv {st st':St} (h:I2 st st') (x:Operand):ev st' x=ev st x:=by
 cases x<;>simp only[ev,h.env]
theorem Fg {st:St} {t:Option Nat} {d:D} (q:Nat):get (st.put t d).env q=if t=some q∧q<st.n then some d else get st.env q:=by
 cases t with
 | none=>simp[St.put]
 | some t=>
   simp only[St.put];by_cases ht:t<st.n
   · rw[if_pos ht];simp only[AI,Option.some.injEq];by_cases e:t=q
     · subst e;simp[ht]
     · simp[e]
   · rw[if_neg ht];by_cases e:t=q
     · subst e;simp[ht]
     · simp[e]
theorem Hj (st:St) (t:Option Nat) (d:D):(st.put t d).n=st.n:=by
 cases t with
 | none=>rfl
 | some t=>simp only[St.put];split<;>rfl
theorem I2.put {st st':St} (h:I2 st st') (t:Option Nat) (d:D):I2 (st.put t d) (st'.put t d):=by
 refine ⟨by rw[Hj,Hj];exact h.n,fun q=>?_,fun id=>by rw[BH,BH];exact h.hp id⟩;rw[Fg,Fg,h.n,h.env]
theorem I2.heap {st st':St} (h:I2 st st') {x x':Hp} (hx:∀id,get x' id=get x id):I2 {st with hp:=x} {st' with hp:=x'}:=⟨h.n,h.env,hx⟩
theorem I2.swap {st:St} {t u:Option Nat} {d x:D} (BC:∀q,t=some q→u≠some q):I2 ((st.put t d).put u x) ((st.put u x).put t d):=by
 refine ⟨by simp only[Hj],fun q=>?_,fun id=>by simp only[BH]⟩;simp only[Fg,Hj];by_cases h1:t=some q∧q<st.n
 · rw[if_pos h1];have:=BC q h1.1;simp[this,h1]
 · rw[if_neg h1];by_cases h2:u=some q∧q<st.n
   · simp[h2,h1]
   · simp[h2,h1]
section
variable {P:Program}
def Looks (l:List Oper) (o:Oper) (st st':St):Prop:=(∀x∈o.op.operands.toList,ev st' x=ev st x)∧Ii st' l o.guard=Ii st l o.guard
theorem n8 {st st':St}:∀{l:List Operand},(∀x∈l,ev st' x=ev st x)→l.map (ev st')=l.map (ev st)
 | [],_=>rfl
 | x::r,h=>by simp only[List.map_cons,h x (by simp),n8 (l:=r) (fun y hy=>h y (by simp[hy]))]
theorem U3 {st st':St}:∀{l:List (Nat×Operand)},(∀x∈l.map (·.2),ev st' x=ev st x)→l.map (fun q=>(q.1,ev st' q.2))=l.map (fun q=>(q.1,ev st q.2))
 | [],_=>rfl
 | x::r,h=>by simp only[List.map_cons,h x.2 (by simp),U3 (l:=r) (fun y hy=>h y (by simp only[List.map_cons,List.mem_cons];exact .inr hy))]
theorem JJ {st st':St} {o:Option Operand} {n:Int} (h:∀x∈o.toList,ev st' x=ev st x):Cu st' o n=Cu st o n:=by
 cases o with
 | none=>rfl
 | some x=>simp only[Cu,h x (by simp)]
theorem LD {st st':St} {o:Oper} (h:∀x∈o.op.operands.toList,ev st' x=ev st x) (hp:st'.hp=st.hp):Ij P st' o=Ij P st o:=by
 unfold Ij;generalize o.op=op at h;cases op with
 | call c=>
   simp only;cases hc:c.callee with
   | builtin b=>
     simp only;have:c.args.toList.map (ev st')=c.args.toList.map (ev st):=n8 fun x hx=>h x (by simp[Op.operands,Call.operands,hc];simpa using hx);rw[this];unfold C7;rw[hp]
   | _=>rfl
 | slice t x lo hi mx=>
   have h1:ev st' x=ev st x:=h x (by simp[Op.operands]);have h2:∀n,Cu st' lo n=Cu st lo n:=fun n=>JJ fun y hy=>h y (by simp[Op.operands];cases lo<;>simp_all);have h3:∀n,Cu st' hi n=Cu st hi n:=fun n=>JJ fun y hy=>h y (by simp[Op.operands];cases hi<;>simp_all);have h4:∀m n,mx=some m→Cu st' (some m) n=Cu st (some m) n:=fun m n hm=>JJ fun y hy=>h y (by simp[Op.operands];simp_all);have:FA P st' t (ev st x) lo hi mx=FA P st t (ev st x) lo hi mx:=by
     unfold FA;simp only[h2,h3,hp];cases mx with
     | none=>rfl
     | some m=>simp only[h4 m _ rfl]
   simp only[H7,h1,this,hp]
 | build t ps=>
   have h1:ps.toList.map (fun q=>(q.1,ev st' q.2))=ps.toList.map (fun q=>(q.1,ev st q.2)):=U3 fun x hx=>h x (by simpa [Op.operands] using hx);simp only[H7,Sl,h1,hp]
 | buildSlice t n ps=>
   have h1:ps.toList.map (fun q=>(q.1,ev st' q.2))=ps.toList.map (fun q=>(q.1,ev st q.2)):=U3 fun x hx=>h x (by simpa [Op.operands] using hx);simp only[Jj,h1,hp]
 | makeFunc fn first cap=>
   have h1:cap.toList.map (ev st')=cap.toList.map (ev st):=n8 fun x hx=>h x (by simp[Op.operands];exact .inr (by simpa using hx));cases fn<;>simp only[H7,h1,hp]
 | makeMap t r=>cases r<;>simp only[Jj,hp]
 | _=>simp[Op.operands] at h<;>simp only[H7,Jj,h,hp]
theorem XY {st st':St} {o:Oper} {f:Operand} {args:List Operand} (hc:Bz o.op=some (f,args)) (h:∀x∈o.op.operands.toList,ev st' x=ev st x) (hp:st'.hp=st.hp):EP st' f args=EP st f args:=by
 unfold Bz at hc;split at hc
 case h_2=>cases hc
 rename_i cl Ot;split at hc
 case h_2=>cases hc
 rename_i f' Zy;simp only[Option.some.injEq,Prod.mk.injEq] at hc;obtain ⟨rfl,rfl⟩:=hc;rw[Ot] at h;have h1:ev st' f'=ev st f':=h f' (by simp[Op.operands,Call.operands,Zy]);have h2:cl.args.toList.map (ev st')=cl.args.toList.map (ev st):=n8 fun x hx=>h x (by simp[Op.operands,Call.operands,Zy];exact .inr (by simpa using hx));unfold EP;rw[h1,h2,hp]
theorem Oz {st st':St} {o:Oper} {K K':St→Prop} (h:∀x∈o.op.operands.toList,ev st' x=ev st x) (hp:st'.hp=st.hp)
   (hK:∀y d,K (({st with hp:=y}:St).put o.dst d)→K' (({st' with hp:=y}:St).put o.dst d)) (hh:OA P false o K st):OA P false o K' st':=by
 unfold OA at*;split at hh
 · rename_i f args hc;rw[XY hc h hp];rcases Rs.DL hh with hh | hh
   case inr=>exact (Bool.false_ne_true hh.1).elim
   simp only[JE] at hh ⊢;exact Rs.C9 (Rs.AE (fun x hx=>MT (fun d y hk=>hK y d hk) hx) hh)
 · rw[LD h hp];rcases Rs.DL hh with hh | hh
   case inr=>exact (Bool.false_ne_true hh.1).elim
   exact Rs.C9 (Rs.AE (fun x hx=>hK _ _ hx) hh)
theorem Af6 {st:St} {o:Oper} {K K':St→Prop} (hK:∀s,K s→K' s) (hh:OA P false o K st):OA P false o K' st:=
 Oz (fun _ _=>rfl) rfl (fun _ _ hk=>hK _ hk) hh
theorem Al8 {st st':St} (he:I2 st st') {o:Oper} {K:St→Prop} (hs:Qm K) (hh:OA P false o K st):OA P false o K st':=by
 have h1:OA P false o K {st' with hp:=st.hp}:=Oz (fun x _=>Vv (st':={st' with hp:=st.hp}) ⟨he.n,he.env,fun _=>rfl⟩ x) rfl
   (fun y d hk=>hs _ _ (I2.put (I2.heap he fun _=>rfl) _ _) hk) hh
 have hx:HX [] st.hp st'.hp:=fun id=>by rw[he.hp];cases get st.hp id<;>rfl
 have h2:=Ap3 (env:=st'.env) (n:=st'.n) hx (fun id h=>(h rfl).elim) rfl h1;refine Af6 (fun s ⟨y,hy,hk⟩=>?_) h2;have e:I2 {s with hp:=y} s:=by
   refine ⟨rfl,fun _=>rfl,fun id=>?_⟩;have:=hy id;simp only[get] at this;rw[this];cases get y id<;>rfl
 exact hs _ _ e hk
theorem Lh {st st':St} {o:Oper} {K K':St→Prop} (h:∀x∈o.op.operands.toList,ev st' x=ev st x) (hp:st'.hp=st.hp)
   (hK:∀y d,K (({st with hp:=y}:St).put o.dst d)→K' (({st' with hp:=y}:St).put o.dst d)) (hh:V6 P o K st):V6 P o K' st':=by
 rcases hh with hh | hh
 · exact .inl (Oz h hp hK hh)
 · refine .inr (Sy h (fun id=>by rw[hp]) (fun d hk=>?_) hh);have:=hK st.hp d hk;rw[←hp] at this;exact this
theorem EX {st:St} {o:Oper} {K K':St→Prop} (hK:∀s,K s→K' s) (hh:V6 P o K st):V6 P o K' st:=
 Lh (fun _ _=>rfl) rfl (fun _ _ hk=>hK _ hk) hh
theorem j0 {st st':St} (he:I2 st st') {o:Oper} {K:St→Prop} (hs:Qm K) (hh:V6 P o K st):V6 P o K st':=by
 rcases hh with hh | hh
 · exact .inl (Al8 he hs hh)
 · exact .inr (Sy (fun x _=>Vv he x) he.hp (fun d hk=>hs _ _ (he.put _ _) hk) hh)
theorem Ap1 {env:List (Nat×D)} {n:Nat} {e h h':Hp} (hx:HX e h h') (he:∀id,get e id≠none→id<10000) (hn:GI h) {o:Oper} (hq:isQ o.op=true) (ho:∀x∈o.op.operands.toList,D4 h (ev ⟨env,h,n⟩ x)) {K:St→Prop} (hh:V6 P o K ⟨env,h',n⟩):
   V6 P o (fun st=>(∃CO,HX e st.hp CO∧K {st with hp:=CO})∧CZ (some (o.dst.getD 0)) h st.hp) ⟨env,h,n⟩:=
 hh.elim (fun hh=> .inl (Ap2 hx he hn hq ho hh)) fun hh=> .inr (Ao3 hx ho hh)
end
end Go.Am
namespace Go.Am
open Go
def DE:List D→Option (List Pd)
 | []=>some []
 | .p x::r=>(DE r).map (x:: ·)
 | .cl es::r=>(DE r).map (.sl es:: ·)
 | _::_=>none
def GG (P:Program) (st:St) (q:Nat) (op:Op):Rs (D×AO):=
 match op with
 | .alloc t=>match AT P t with
   | some ti=>match ti.zero.stored with
     | some cs=> .ret True (.ptr q 0,.box cs (npT t cs))
     | none=> .fail
   | none=> .fail
 | .box _ x=>match (ev st x).stored with
   | some cs=> .ret True (.ptr q 0,.box cs)
   | none=> .fail
 | .buildSlice t n parts=>match AT P t with
   | some ⟨_,_,.slice e,_⟩=>match AT P e with
     | some ti=>match Ee (fun i=>some (i*ti.size,ti.size)) (List.replicate (n*ti.size) .bad) (parts.toList.map fun q=>(q.1,ev st q.2)) with
       | some cs=>if UU ti cs=true then .fail else match DE cs with
         | some y=> .ret (0<ti.size∧n*ti.size≤16777216) (.ref q 0 n n,.arr e ti.size (chunk ti.size n y))
         | none=> .fail
       | none=> .fail
     | none=> .fail
   | _=> .fail
 | .makeSlice t l m=>match AT P t,ev st l,ev st m with
   | some ⟨_,_,.slice e,_⟩,.p (.int _ l),.p (.int _ m)=>match AT P e with
     | some ti=>if ti.k.Amb=true then .fail else match DE ti.zero.cells with
       | some y=> .ret (0<ti.size∧(0≤l∧l≤m∧m*ti.bytes≤140737488355328∧m≤140737488355328)∧ti.zero.cells.length=ti.size) (.ref q 0 l.toNat l.toNat,.arr e ti.size (List.replicate l.toNat y))
       | none=> .fail
     | none=> .fail
   | _,_,_=> .fail
 | _=> .fail
def Gp (P:Program) (l:List Oper) (hR:Hp):List (Nat×Nat)→(St→Prop)→St→Prop
 | [],K,st=>K st
 | (i,kd)::r,K,st=>match l[i]? with
   | none=>False
   | some o=>DC st l o.guard (match kd with
     | 0=>(Ij P {st with hp:=hR} o).all fun x=>Gp P l hR r K (st.put o.dst x.1)
     | 1=>(GG P st (o.dst.getD 0) o.op).all fun x=>get st.hp (o.dst.getD 0)=none∧Gp P l hR r K (({st with hp:=(o.dst.getD 0,x.2)::st.hp}:St).put o.dst x.1)
     | 2=>V6 P o (fun s=>Av s.hp hR∧Gp P l hR r K s) st
     | _=>V6 P o (Gp P l hR r K) st) (Gp P l hR r K (st.put o.dst (.BA [])))
theorem Rs.leaf {α:Type} {k:α→Prop}:∀{r:Rs α},r.all k→∃a,k a∧∀k':α→Prop,k' a→r.all k'
 | .fail,h=>h.elim
 | .ret p a,h=>⟨a,h.2,fun _ hk=>⟨h.1,hk⟩⟩
 | .split b x y,h=>by
   cases b
   · obtain ⟨a,h1,h2⟩:=Rs.leaf (h.2 rfl);exact ⟨a,h1,fun k' hk=>⟨fun e=>(Bool.false_ne_true e).elim,fun _=>h2 k' hk⟩⟩
   · obtain ⟨a,h1,h2⟩:=Rs.leaf (h.1 rfl);exact ⟨a,h1,fun k' hk=>⟨fun _=>h2 k' hk,fun e=>(Bool.false_ne_true e.symm).elim⟩⟩
theorem EL (st:St) (l:List Oper) (g:Option (Nat×Bool)) (yes no:Prop):DC st l g yes no=match Ii st l g with
   | .yes=>yes
   | .no=>no
   | .cond b=>Uz b yes no
   | .bad=>False:=by
 unfold DC Ii;cases g with
 | none=>rfl
 | some g=>
   obtain ⟨j,want⟩:=g;simp only;cases ((l[j]?).bind (·.dst)).bind (get st.env) with
   | none=>rfl
   | some d=>cases d with
     | p q=>cases q<;>rfl
     | BA cs=>cases cs<;>rfl
     | _=>rfl
theorem PQ {st:St} {l:List Oper} {g:Option (Nat×Bool)} {yes no:Prop} (h:DC st l g yes no):
   (yes∧∀(st':St) (y n:Prop),Ii st' l g=Ii st l g→y→DC st' l g y n)∨(no∧∀(st':St) (y n:Prop),Ii st' l g=Ii st l g→n→DC st' l g y n):=by
 rw[EL] at h;cases hg:Ii st l g with
 | yes=>rw[hg] at h;exact .inl ⟨h,fun st' y n e hy=>by rw[EL,e];exact hy⟩
 | no=>rw[hg] at h;exact .inr ⟨h,fun st' y n e hy=>by rw[EL,e];exact hy⟩
 | bad=>rw[hg] at h;exact h.elim
 | cond b=>
   rw[hg] at h;cases b
   · exact .inr ⟨h.2 rfl,fun st' y n e hy=>by rw[EL,e];exact ⟨fun e=>(Bool.false_ne_true e).elim,fun _=>hy⟩⟩
   · exact .inl ⟨h.1 rfl,fun st' y n e hy=>by rw[EL,e];exact ⟨fun _=>hy,fun e=>(Bool.false_ne_true e.symm).elim⟩⟩
theorem B0 {st st':St} {l:List Oper} {g:Option (Nat×Bool)} {yes no Ary no':Prop} (e:Ii st' l g=Ii st l g) (hy:yes→Ary) (hn:no→no') (h:DC st l g yes no):DC st' l g Ary no':=by
 rcases PQ h with ⟨h1,h2⟩ | ⟨h1,h2⟩
 · exact h2 st' _ _ e (hy h1)
 · exact h2 st' _ _ e (hn h1)
section
variable {P:Program} {l:List Oper} {hR:Hp}
theorem Ahr {st st':St} (h:I2 st st') (g:Option (Nat×Bool)):Ii st' l g=Ii st l g:=by
 unfold Ii;have:get st'.env=get st.env:=funext h.env;rw[this]
theorem JL {st st':St} {q:Nat} {op:Op} (h:∀x∈op.operands.toList,ev st' x=ev st x):GG P st' q op=GG P st q op:=by
 unfold GG;cases op with
 | box t x=>simp only[h x (by simp[Op.operands])]
 | buildSlice t n ps=>
   have h1:ps.toList.map (fun q=>(q.1,ev st' q.2))=ps.toList.map (fun q=>(q.1,ev st q.2)):=U3 fun x hx=>h x (by simpa [Op.operands] using hx);simp only[h1]
 | makeSlice t l m=>simp only[h l (by simp[Op.operands]),h m (by simp[Op.operands])]
 | _=>rfl
theorem Jc:∀{cs:List D} {y:List Pd},DE cs=some y→∀(h:Hp) (k:List Pd×Hp→Prop),k (y,h)→(F4 h cs).all k
 | [],y,hp,h,k,hk=>by simp only[DE,Option.some.injEq] at hp;subst hp;exact ⟨trivial,hk⟩
 | .p x::r,y,hp,h,k,hk=>by
   simp only[DE,Option.map_eq_some_iff] at hp;obtain ⟨z,hz,rfl⟩:=hp;exact Rs.A3 ⟨trivial,Rs.A3 (Jc hz h _ ⟨trivial,hk⟩)⟩
 | .cl es::r,y,hp,h,k,hk=>by
   simp only[DE,Option.map_eq_some_iff] at hp;obtain ⟨z,hz,rfl⟩:=hp;exact Rs.A3 ⟨trivial,Rs.A3 (Jc hz h _ ⟨trivial,hk⟩)⟩
 | .agg _::r,y,hp,h,k,hk=>by simp[DE] at hp
 | .BA _::r,y,hp,h,k,hk=>by simp[DE] at hp
 | .cz _::r,y,hp,h,k,hk=>by simp[DE] at hp
 | .ref _ _ _ _::r,y,hp,h,k,hk=>by simp[DE] at hp
 | .ptr _ _::r,y,hp,h,k,hk=>by simp[DE] at hp
 | .pe _::r,y,hp,h,k,hk=>by simp[DE] at hp
 | .ea _ _ _ _::r,y,hp,h,k,hk=>by simp[DE] at hp
 | .fn _ _::r,y,hp,h,k,hk=>by simp[DE] at hp
 | .np::r,y,hp,h,k,hk=>by simp[DE] at hp
 | .mv _::r,y,hp,h,k,hk=>by simp[DE] at hp
 | .BS _ _::r,y,hp,h,k,hk=>by simp[DE] at hp
 | .J6 _ _ _::r,y,hp,h,k,hk=>by simp[DE] at hp
 | .nr _ _ _ _::r,y,hp,h,k,hk=>by simp[DE] at hp
 | .Pu::r,y,hp,h,k,hk=>by simp[DE] at hp
 | .bad::r,y,hp,h,k,hk=>by simp[DE] at hp
theorem Uw {st:St} {o:Oper} {K:St→Prop} (h:(GG P st (o.dst.getD 0) o.op).all fun x=>get st.hp (o.dst.getD 0)=none∧K (({st with hp:=(o.dst.getD 0,x.2)::st.hp}:St).put o.dst x.1)):
   Bz o.op=none∧Ij P st o=Jj P st (o.dst.getD 0) o.op∧(Jj P st (o.dst.getD 0) o.op).all fun x=>K (({st with hp:=x.2}:St).put o.dst x.1):=by
 unfold GG at h;unfold Ij Bz;split at h
 · rename_i t ho;simp only[ho,true_and];split at h
   · rename_i h1;split at h
     · rename_i h2;simp only[Jj,h1,h2];exact ⟨h.2.1,h.2.2⟩
     · exact h.elim
   · exact h.elim
 · rename_i t x ho;simp only[ho,true_and];split at h
   · rename_i h2;simp only[Jj,h2];exact ⟨h.2.1,h.2.2⟩
   · exact h.elim
 · rename_i t n parts ho;simp only[ho,true_and];split at h
   · rename_i h1;split at h
     · rename_i h2;split at h
       · rename_i h3;split at h
         · exact h.elim
         rename_i hnr;split at h
         · rename_i h4;simp only[Jj,h1,h2,h3,if_neg hnr];exact Rs.A3 (Jc h4 _ _ ⟨⟨h.1.1,h.1.2,h.2.1⟩,h.2.2⟩)
         · exact h.elim
       · exact h.elim
     · exact h.elim
   · exact h.elim
 · rename_i t l m ho;simp only[ho,true_and];split at h
   · rename_i h1 h2 h3;split at h
     · rename_i h4;split at h
       · exact h.elim
       rename_i hnr;split at h
       · rename_i h5;simp only[Jj,h1,h2,h3,h4,if_neg hnr];exact Rs.A3 (Jc h5 _ _ ⟨⟨h.1.1,h.2.1,h.1.2.1,h.1.2.2⟩,h.2.2⟩)
       · exact h.elim
     · exact h.elim
   · exact h.elim
 · exact h.elim
theorem Av.congr {h h2:Hp} (he:∀id,get h2 id=get h id):∀{h1:Hp},Av h h1→Av h2 h1
 | [],_=>trivial
 | (id,o)::r,hl=>⟨by rw[he];exact hl.1,Av.congr he hl.2⟩
theorem FX {K:St→Prop} (hK:Qm K):∀(r:List (Nat×Nat)),Qm (Gp P l hR r K)
 | []=>hK
 | (i,kd)::r=>by
   intro st st' he h;have ih:=FX hK r;simp only[Gp] at h ⊢;split at h
   · exact h.elim
   · rename_i o ho;try simp only[ho]
     refine B0 (Ahr he _) (fun hy=>?_) (fun hn=>ih _ _ (he.put _ _) hn) h;split at hy
     · rw[LD (st:={st with hp:=hR}) (st':={st' with hp:=hR}) (fun x _=>Vv (he.heap (x:=hR) (x':=hR) fun _=>rfl) x) rfl];exact Rs.AE (fun x hx=>ih _ _ (he.put _ _) hx) hy
     · rw[JL (st:=st) (fun x _=>Vv he x)];refine Rs.AE (fun x hx=>⟨by rw[he.hp];exact hx.1,ih _ _ (I2.put (he.heap fun id=>?_) _ _) hx.2⟩) hy;simp only[AI,he.hp]
     · exact j0 he (fun s s' hs hh=>⟨hh.1.congr hs.hp,ih _ _ hs hh.2⟩) hy
     · exact j0 he ih hy
end
end Go.Am
namespace Go.Am
open Go
section
variable {P:Program} {l:List Oper} {hR:Hp}
theorem Av.hx {h:Hp} (hl:Av h hR):HX h hR h:=by
 intro id;cases hg:get hR id with
 | none=>rfl
 | some o=>exact hl.spec id o hg
theorem WU {o:Oper} (hv:L7 o.op=true):Bz o.op=none:=by
 unfold Bz;split
 · rename_i c hc;rw[hc] at hv;split
   · rename_i f hf;simp[L7,hf] at hv
   · rfl
 · rfl
theorem Akg {env:List (Nat×D)} {n:Nat} {e h h':Hp} (hx:HX e h h') {q:Nat} {b:Builtin} (hb:b≠ .append) (SI:b≠ .copy) {ts:Array TypeId} {args:List D} {k:D→Prop} (hh:(C7 P ⟨env,h,n⟩ q b ts args).all (fun x=>k x.1)):
   (C7 P ⟨env,h',n⟩ q b ts args).all (fun y=>y.2=h'∧k y.1):=by
 unfold C7 at*;split at hh
 · split at hh
   · refine Rs.A3 (Rs.AE (fun y hy=>?_) (o4 hx (Rs.all_bind hh)));exact ⟨hy.1,rfl,hy.2⟩
   · exact hh.elim
 · exact (hb rfl).elim
 · exact (SI rfl).elim
 · exact ⟨hh.1,rfl,hh.2⟩
 · exact ⟨hh.1,rfl,hh.2⟩
 · exact hh.elim
theorem doV {env:List (Nat×D)} {n:Nat} {e h h':Hp} (hx:HX e h h') {o:Oper} (hv:L7 o.op=true) {k:D→Prop} (hh:(Ij P ⟨env,h,n⟩ o).all (fun x=>k x.1)):(Ij P ⟨env,h',n⟩ o).all (fun x=>x.2=h'∧k x.1):=by
 have val:∀{op:Op},((H7 P ⟨env,h,n⟩ op).bind fun d=> .ret True (d,h)).all (fun x=>k x.1)→((H7 P ⟨env,h',n⟩ op).bind fun d=> .ret True (d,h')).all (fun x=>x.2=h'∧k x.1):=fun hv=>
   Rs.A3 (Rs.AE (fun d hd=>⟨hd.1,rfl,hd.2⟩) (j3 hx (Rs.all_bind hv)))
 unfold Ij at*;generalize o.op=op at hv hh ⊢;cases op with
 | call c=>
   cases hc:c.callee with
   | builtin b=>
     simp only[hc] at hh ⊢;exact Akg hx (fun e=>by subst e;simp[L7,hc] at hv) (fun e=>by subst e;simp[L7,hc] at hv) hh
   | _=>simp only[hc] at hh;exact hh.elim
 | alloc _=>simp[L7] at hv
 | box _ _=>simp[L7] at hv
 | store _ _ _=>simp[L7] at hv
 | buildSlice _ _ _=>simp[L7] at hv
 | makeSlice _ _ _=>simp[L7] at hv
 | makeMap _ _=>simp[L7] at hv
 | mapUpdate _ _ _ _=>simp[L7] at hv
 | _=>exact val hh
theorem Oy {st:St} {o:Oper} {K:St→Prop} (hc:Bz o.op=none) (h:(Ij P st o).all fun x=>K (({st with hp:=x.2}:St).put o.dst x.1)):OA P false o K st:=by
 unfold OA;rw[hc];exact Rs.C9 h
theorem eff {i kd:Nat} {r:List (Nat×Nat)} {K:St→Prop} {st:St} {o:Oper} (ho:l[i]?=some o) (hk:kd=0∨kd=1) (hv:kd=0→L7 o.op=true) (h:Gp P l hR ((i,kd)::r) K st):
   ∃(e:Hp) (d:D),(e=[]∨(kd=1∧∃ao,e=[(o.dst.getD 0,ao)]))∧(∀x∈e,get st.hp x.1=none)∧Gp P l hR r K (({st with hp:=e++st.hp}:St).put o.dst d)∧
     (∀(s:St) (r':List (Nat×Nat)) (K':St→Prop),Looks l o st s→(∀x∈e,get s.hp x.1=none)→Gp P l hR r' K' (({s with hp:=e++s.hp}:St).put o.dst d)→Gp P l hR ((i,kd)::r') K' s)∧
     (∀(c:Ctx) (a:Act) (w:World) (F:Nat→Prop) (M:Nat→Mb),Rel c st a w F M→(kd=0→Av st.hp hR)→∃a' w' F' M',Rel c (({st with hp:=e++st.hp}:St).put o.dst d) a' w' F' M'):=by
 simp only[Gp,ho] at h;rcases PQ h with ⟨hy,EK⟩ | ⟨hn,EK⟩
 · rcases hk with rfl | rfl
   · simp only at hy;obtain ⟨x,hx,hb⟩:=Rs.leaf hy;refine ⟨[],x.1,.inl rfl,(fun y hy=>by cases hy),hx,fun s r' K' hl _ hg=>?_,fun c a w F M hr hle=>?_⟩
     · simp only[Gp,ho];refine EK s _ _ hl.2 ?_;try simp only
       rw[LD (st:={st with hp:=hR}) (st':={s with hp:=hR}) (fun x hx=>hl.1 x hx) rfl];exact hb _ hg
     · have h1:(Ij P ⟨st.env,hR,st.n⟩ o).all (fun y=>(fun d=>d=x.1) y.1):=hb (fun y=>y.1=x.1) rfl;have h2:=doV (k:=fun d=>d=x.1) (hle rfl).hx (hv rfl) h1;have h3:OA P false o (fun s=>s=st.put o.dst x.1) st:=Oy (WU (hv rfl)) (Rs.AE (fun y hy=>by
         obtain ⟨e1,e2⟩:=hy;rw[e1,e2]) h2)
       obtain ⟨d,v,e1,hd,_⟩:=Abg hr (hv rfl) h3;have:=hr.put hd o.dst;rw[e1] at this;exact ⟨_,w,F,M,this⟩
   · simp only at hy;obtain ⟨x,hx,hb⟩:=Rs.leaf hy;refine ⟨[(o.dst.getD 0,x.2)],x.1,.inr ⟨rfl,x.2,rfl⟩,(fun y hy=>by simp only[List.mem_singleton] at hy;subst hy;exact hx.1),hx.2,fun s r' K' hl hf hg=>?_,fun c a w F M hr _=>?_⟩
     · simp only[Gp,ho];refine EK s _ _ hl.2 ?_;try simp only
       rw[JL (st:=st) (fun x hx=>hl.1 x hx)];exact hb _ ⟨hf (o.dst.getD 0,x.2) (by simp),hg⟩
     · obtain ⟨_,_,h1⟩:=Uw (K:=fun s=>s=({st with hp:=(o.dst.getD 0,x.2)::st.hp}:St).put o.dst x.1) (hb (fun y=>get st.hp (o.dst.getD 0)=none∧({st with hp:=(o.dst.getD 0,y.2)::st.hp}:St).put o.dst y.1=({st with hp:=(o.dst.getD 0,x.2)::st.hp}:St).put o.dst x.1) ⟨hx.1,rfl⟩);obtain ⟨d,h',v,w',F',M',e1,IZ,_,hd,_⟩:=DQ hr (o:=o) (k:=fun d h=>({st with hp:=h}:St).put o.dst d=({st with hp:=(o.dst.getD 0,x.2)::st.hp}:St).put o.dst x.1) (F6 h1);have:=IZ.put hd o.dst;try simp only at e1
       rw[e1] at this;exact ⟨_,w',F',M',this⟩
 · refine ⟨[],.BA [],.inl rfl,(fun y hy=>by cases hy),hn,fun s r' K' hl _ hg=>?_,fun c a w F M hr _=>?_⟩
   · simp only[Gp,ho];exact EK s _ _ hl.2 hg
   · exact ⟨_,w,F,M,hr.put (.BA [] #[] rfl (fun i d hd=>by simp at hd)) o.dst⟩
end
end Go.Am
namespace Go.Am
open Go
structure Ap (l:List Oper) (x y:Oper):Prop where
 a:∀d,x.dst=some d→d∉y.looksAt l.toArray
 b:∀d,x.dst=some d→y.dst≠some d
 c:∀d,y.dst=some d→d∉x.looksAt l.toArray
section
variable {P:Program} {l:List Oper} {hR:Hp}
theorem Dw {o:Oper} {st:St} {t:Option Nat} {d:D} {h:Hp} (hn:∀q,t=some q→q∉o.looksAt l.toArray):Looks l o st (({st with hp:=h}:St).put t d):=by
 refine ⟨fun x hx=>?_,?_⟩
 · cases x with
   | tmp q=>
     simp only[ev,Fg];rw[if_neg];rintro ⟨e,_⟩;refine hn q e ?_;unfold Oper.looksAt;exact List.mem_append_left _ (List.mem_filterMap.2 ⟨.tmp q,hx,rfl⟩)
   | _=>rfl
 · unfold Ii;cases hg:o.guard with
   | none=>rfl
   | some g=>
     obtain ⟨j,want⟩:=g;simp only;cases hj:(l[j]?).bind (·.dst) with
     | none=>rfl
     | some q=>
       have:get (({st with hp:=h}:St).put t d).env q=get st.env q:=by
         rw[Fg,if_neg];rintro ⟨e,_⟩;refine hn q e ?_;unfold Oper.looksAt;refine List.mem_append_right _ ?_;rw[hg];simp[hj]
       simp only[Option.bind_some,this]
theorem Looks.trans {o:Oper} {a b c:St} (h:Looks l o a b) (h':Looks l o b c):Looks l o a c:=⟨fun x hx=>(h'.1 x hx).trans (h.1 x hx),h'.2.trans h.2⟩
theorem Looks.heap {o:Oper} {a b:St} (h:Looks l o a b) (x y:Hp):Looks l o {a with hp:=x} {b with hp:=y}:=by
 refine ⟨fun z hz=>?_,?_⟩
 · have:=h.1 z hz;cases z<;>exact this
 · exact h.2
theorem Qx {st:St} {e:Hp} {t u:Option Nat} {d x:D} (BC:∀q,t=some q→u≠some q):
   I2 ((({st with hp:=e++st.hp}:St).put t d).put u x) (({(st.put u x) with hp:=e++(st.put u x).hp}:St).put t d):=by
 have h1:I2 ((({st with hp:=e++st.hp}:St).put t d).put u x) ((({st with hp:=e++st.hp}:St).put u x).put t d):=I2.swap BC;refine h1.trans (I2.put ?_ _ _);refine ⟨by simp only[Hj],fun q=>?_,fun id=>?_⟩
 · simp only[Fg]
 · simp only[BH]
theorem Aoe {K:St→Prop} (hK:Qm K) {j:Nat} {oj:Oper} (hj:l[j]?=some oj) (post:List (Nat×Nat)):∀(pre:List (Nat×Nat)) {st:St},Gp P l hR (pre++(j,0)::post) K st→
   (∀x∈pre,(x.2=0∨x.2=1)∧∃oi,l[x.1]?=some oi∧(x.2=0→L7 oi.op=true)∧Ap l oi oj)→
   DC st l oj.guard ((Ij P {st with hp:=hR} oj).all fun x=>Gp P l hR (pre++post) K (st.put oj.dst x.1)) (Gp P l hR (pre++post) K (st.put oj.dst (.BA [])))
 | [],st,h,_=>by
   simp only[List.nil_append,Gp,hj] at h;exact h
 | (i,ki)::pre,st,h,hp=>by
   obtain ⟨hk,oi,ho,hv,Vp⟩:=hp (i,ki) (by simp);obtain ⟨e,d,he,hf,hg,EK,_⟩:=eff ho hk hv h;have ih:=Aoe hK hj post pre hg (fun x hx=>hp x (by simp[hx]));have hlk:Looks l oj st (({st with hp:=e++st.hp}:St).put oi.dst d):=Dw Vp.a;have go:∀x:D,Gp P l hR (pre++post) K ((({st with hp:=e++st.hp}:St).put oi.dst d).put oj.dst x)→Gp P l hR ((i,ki)::(pre++post)) K (st.put oj.dst x):=by
     intro x hx;refine EK _ _ _ (Dw (h:=st.hp) Vp.c) (fun y hy=>by rw[BH];exact hf y hy) (FX hK _ _ _ (Qx Vp.b) hx)
   refine B0 hlk.2.symm (fun hy=>?_) (fun hn=>go _ hn) ih;rw[LD (st:={st with hp:=hR}) (fun x hx=>(hlk.heap hR hR).1 x hx) rfl] at hy;exact Rs.AE (fun x hx=>go _ hx) hy
theorem Aof {K:St→Prop} (hK:Qm K) {j:Nat} {oj:Oper} (hj:l[j]?=some oj) (post:List (Nat×Nat)):∀(pre:List (Nat×Nat)) {st:St},Gp P l hR (pre++(j,1)::post) K st→
   (∀x∈pre,(x.2=0∨x.2=1)∧∃oi,l[x.1]?=some oi∧(x.2=0→L7 oi.op=true)∧Ap l oi oj∧(x.2=1→oi.dst.getD 0≠oj.dst.getD 0))→
   DC st l oj.guard ((GG P st (oj.dst.getD 0) oj.op).all fun x=>get st.hp (oj.dst.getD 0)=none∧Gp P l hR (pre++post) K (({st with hp:=(oj.dst.getD 0,x.2)::st.hp}:St).put oj.dst x.1)) (Gp P l hR (pre++post) K (st.put oj.dst (.BA [])))
 | [],st,h,_=>by
   simp only[List.nil_append,Gp,hj] at h;exact h
 | (i,ki)::pre,st,h,hp=>by
   obtain ⟨hk,oi,ho,hv,Vp,Amo⟩:=hp (i,ki) (by simp);obtain ⟨e,d,he,hf,hg,EK,_⟩:=eff ho hk hv h;have ih:=Aof hK hj post pre hg (fun x hx=>hp x (by simp[hx]));have hlk:Looks l oj st (({st with hp:=e++st.hp}:St).put oi.dst d):=Dw Vp.a;have Xa:∀y∈e,y.1≠oj.dst.getD 0:=by
     intro y hy;rcases he with rfl | ⟨h1,ao,rfl⟩
     · cases hy
     · simp only[List.mem_singleton] at hy;subst hy;exact Amo h1
   refine B0 hlk.2.symm (fun hy=>?_) (fun hn=>?_) ih
   · rw[JL (st:=st) (fun x hx=>hlk.1 x hx)] at hy;refine Rs.AE (fun x hx=>?_) hy;obtain ⟨h1,h2⟩:=hx;rw[BH] at h1;simp only at h1;have Zx:get st.hp (oj.dst.getD 0)=none:=by
       rcases he with rfl | ⟨_,ao,rfl⟩
       · exact h1
       · simp only[List.singleton_append,AI] at h1;rw[if_neg (Xa (oi.dst.getD 0,ao) (by simp))] at h1;exact h1
     refine ⟨Zx,?_⟩;refine EK _ _ _ ((Dw (h:=(oj.dst.getD 0,x.2)::st.hp) Vp.c)) (fun y hy=>?_) ?_
     · rw[BH];simp only[AI];rw[if_neg (fun e2=>Xa y hy e2.symm)];exact hf y hy
     · refine FX hK _ _ _ ?_ h2;have h3:=Qx (st:={st with hp:=(oj.dst.getD 0,x.2)::st.hp}) (e:=e) (d:=d) (x:=x.1) Vp.b;refine I2.trans ?_ h3;refine ⟨by simp only[Hj],fun q=>by simp only[Fg,Hj],fun id=>?_⟩;simp only[BH];rcases he with rfl | ⟨_,ao,rfl⟩
       · rfl
       · simp only[List.singleton_append,AI];by_cases e1:oi.dst.getD 0=id
         · by_cases e2:oj.dst.getD 0=id
           · exact (Xa (oi.dst.getD 0,ao) (by simp) (e1.trans e2.symm)).elim
           · simp[e1,e2]
         · simp[e1]
   · refine EK _ _ _ (Dw (h:=st.hp) Vp.c) (fun y hy=>by rw[BH];exact hf y hy) (FX hK _ _ _ (Qx Vp.b) hn)
end
end Go.Am
namespace Go.Am
open Go
theorem KJ:∀{cs:List D} {id:Nat},id∈Ai cs→∃(i:Nat) (c:D),cs[i]?=some c∧id∈c.ids
 | [],id,h=>by simp[Ai] at h
 | d::r,id,h=>by
   simp only[Ai,List.mem_append] at h;rcases h with h | h
   · exact ⟨0,d,rfl,h⟩
   · obtain ⟨i,c,h1,h2⟩:=KJ h;exact ⟨i+1,c,by simpa using h1,h2⟩
theorem DR.Apl {F:Nat→Prop} {w:World} {M:Nat→Mb} {s:Nat→Option Sg} {d:D} {v:Value} (h:DR F w M s d v):∀id∈d.ids,s id≠none:=by
 induction h with
 | p _=>intro id hi;simp[D.ids] at hi
 | agg cs vs hl _ ih=>intro id hi;obtain ⟨i,c,h1,h2⟩:=KJ hi;exact ih i c h1 id h2
 | BA cs vs hl _ ih=>intro id hi;obtain ⟨i,c,h1,h2⟩:=KJ hi;exact ih i c h1 id h2
 | cl es a _ _=>intro id hi;simp[D.ids] at hi
 | cz es a _=>intro id hi;simp[D.ids] at hi
 | ref id off len N sz n v hs _ _ _=>intro i hi;simp only[D.ids,List.mem_singleton] at hi;subst hi;rw[hs];simp
 | ptr id off hs=>intro i hi;simp only[D.ids,List.mem_singleton] at hi;subst hi;rw[hs];simp
 | pe _ _ _ _ _ _ _ _ _ _=>intro id hi;simp[D.ids] at hi
 | ea id i c N sz n v hs _ _ _=>intro i hi;simp only[D.ids,List.mem_singleton] at hi;subst hi;rw[hs];simp
 | fn f cap vs hl _ ih=>intro id hi;obtain ⟨i,c,h1,h2⟩:=KJ hi;exact ih i c h1 id h2
 | Pu _ _=>intro id hi;simp[D.ids] at hi
 | bad _=>intro id hi;simp[D.ids] at hi
 | np=>intro id hi;simp[D.ids] at hi
 | mv id hs=>intro i hi;simp only[D.ids,List.mem_singleton] at hi;subst hi;rw[hs];simp
 | BS id n sz m k v hs _ _ _=>intro i hi;simp only[D.ids,List.mem_singleton] at hi;subst hi;rw[hs];simp
 | J6 id i n sz m k b hs _ _ _=>intro i hi;simp only[D.ids,List.mem_singleton] at hi;subst hi;rw[hs];simp
 | nr id i n q sz m k v hs _ _ _=>intro i hi;simp only[D.ids,List.mem_singleton] at hi;subst hi;rw[hs];simp
section
variable {P:Program} {l:List Oper} {hR:Hp}
theorem k7 {h:Hp} {id:Nat}:sg h id≠none→get h id≠none:=by
 intro hs hg;exact hs (by simp[sg,hg])
theorem Rel.nod {c:Ctx} {st:St} {a:Act} {w:World} {F:Nat→Prop} {M:Nat→Mb} (hr:Rel c st a w F M):GI st.hp∧∀x,D4 st.hp (ev st x):=by
 refine ⟨fun id o ho i hi=>?_,fun x id hi=>k7 ((AF hr x).Apl id hi)⟩;have hob:=hr.heap.obj id o ho;cases o with
 | box cs ty=>
   obtain ⟨_,row,t,_,_,hd⟩:=hob;obtain ⟨j,c,h1,h2⟩:=KJ (cs:=cs) hi;exact k7 ((hd.1 j c h1).1.Apl i h2)
 | _=>simp[AO.ids] at hi
theorem Av.app {h e:Hp} (he:e=[]∨∃x,e=[x]) (hf:∀x∈e,get h x.1=none):∀{h1:Hp},Av h h1→Av (e++h) h1
 | [],_=>trivial
 | (id,o)::r,hl=>by
   refine ⟨?_,Av.app he hf hl.2⟩;rcases he with rfl | ⟨x,rfl⟩
   · exact hl.1
   · simp only[List.singleton_append];rw[AI,if_neg]
     · exact hl.1
     · intro e1;have:=hf x (by simp);rw[e1,hl.1] at this;cases this
theorem Av.Ao7 {h e y:Hp} (hx:HX e y h) (hf:∀x∈e,get y x.1=none) (he:e=[]∨∃x,e=[x]) {st:Hp} (hs:∀x∈e,get st x.1=none):∀{h1:Hp},Av st h1→Av h h1→Av y h1
 | [],_,_=>trivial
 | (id,o)::r,h0,hl=>by
   refine ⟨?_,Av.Ao7 hx hf he hs h0.2 hl.2⟩;have h1:=hl.1;rw[hx] at h1;cases hg:get y id with
   | some o2=>rw[hg] at h1;exact h1
   | none=>
     rw[hg] at h1;simp only at h1;rcases he with rfl | ⟨x,rfl⟩
     · cases h1
     · rw[AI] at h1;split at h1
       · rename_i e1;have:=hs x (by simp);rw[e1,h0.1] at this;cases this
       · cases h1
theorem HX.app {h e:Hp} (he:e=[]∨∃x,e=[x]) (hf:∀x∈e,get h x.1=none):HX e h (e++h):=by
 rcases he with rfl | ⟨⟨q,o⟩,rfl⟩
 · exact HX.refl h
 · exact HX.one (hf (q,o) (by simp))
theorem HX.Fh {h y e:Hp} (hx:HX e h y) (he:e=[]∨∃x,e=[x]) (hf:∀x∈e,get h x.1=none) (id:Nat):get (e++h) id=get y id:=by
 rw[hx];rcases he with rfl | ⟨x,rfl⟩
 · simp only[List.nil_append];cases get h id<;>rfl
 · simp only[List.singleton_append];rw[AI];by_cases e1:x.1=id
   · have:=hf x (by simp);rw[e1] at this;rw[if_pos e1,this];simp[get,e1]
   · rw[if_neg e1];cases hg:get h id with
     | none=>simp[get,e1]
     | some o=>rfl
theorem Ag7 {K:St→Prop} (hK:Qm K) {c:Ctx} {j kj:Nat} {oj:Oper} (hj:l[j]?=some oj) (hkj:kj=2∨kj=3) (hq:isQ oj.op=true) (post:List (Nat×Nat)):
   ∀(pre:List (Nat×Nat)) {st:St} {a:Act} {w:World} {F:Nat→Prop} {M:Nat→Mb},Rel c st a w F M→Gp P l hR (pre++(j,kj)::post) K st→(kj=2∨(∃x∈pre,x.2=0)→Av st.hp hR)→
   (∀x∈pre,(x.2=0∨x.2=1)∧∃oi,l[x.1]?=some oi∧(x.2=0→L7 oi.op=true)∧Ap l oi oj∧(x.2=1→oi.dst.getD 0≠oj.dst.getD 0∧oi.dst.getD 0<10000))→
   DC st l oj.guard (V6 P oj (fun s=>(kj=2→Av s.hp hR)∧Gp P l hR (pre++post) K s) st) (Gp P l hR (pre++post) K (st.put oj.dst (.BA [])))
 | [],st,a,w,F,M,hr,h,hle,_=>by
   simp only[List.nil_append,Gp,hj] at h;refine B0 rfl (fun hy=>?_) id h;rcases hkj with rfl | rfl
   · exact EX (fun s hs=>⟨fun _=>hs.1,hs.2⟩) hy
   · exact EX (fun s hs=>⟨fun e=>(by cases e),hs⟩) hy
 | (i,ki)::pre,st,a,w,F,M,hr,h,hle,hp=>by
   obtain ⟨hk,oi,ho,hv,Vp,Amo⟩:=hp (i,ki) (by simp);obtain ⟨e,d,he,hf,hg,EK,Aqa⟩:=eff ho hk hv h;have he':e=[]∨∃x,e=[x]:=by
     rcases he with h1 | ⟨_,ao,h1⟩
     · exact .inl h1
     · exact .inr ⟨_,h1⟩
   obtain ⟨a1,w1,F1,M1,D6⟩:=Aqa c a w F M hr (fun e0=>hle (.inr ⟨(i,ki),by simp,e0⟩));have ih:=Ag7 hK hj hkj hq post pre D6 hg (fun hh=>by
     rw[BH];refine Av.app he' hf (hle ?_);rcases hh with h1 | ⟨x,hx,hx0⟩
     · exact .inl h1
     · exact .inr ⟨x,by simp[hx],hx0⟩) (fun x hx=>hp x (by simp[hx]))
   have hlk:Looks l oj st (({st with hp:=e++st.hp}:St).put oi.dst d):=Dw Vp.a;refine B0 hlk.2.symm (fun hy=>?_) (fun hn=>?_) ih
   · have h1:V6 P oj (fun s=>(kj=2→Av s.hp hR)∧Gp P l hR (pre++post) K (s.put oi.dst d)) {st with hp:=e++st.hp}:=by
       refine Lh (fun x hx=>(hlk.1 x hx).symm) (by rw[BH]) (fun y x hk=>?_) hy;refine ⟨fun e2=>by have:=hk.1 e2;simp only[BH] at this ⊢;exact this,?_⟩;refine FX hK _ _ _ ?_ hk.2;have h2:I2 ((({st with hp:=y}:St).put oi.dst d).put oj.dst x) ((({st with hp:=y}:St).put oj.dst x).put oi.dst d):=I2.swap Vp.b;refine I2.trans ?_ h2;refine ⟨by simp only[Hj],fun q=>by simp only[Fg,Hj],fun id=>by simp only[BH]⟩
     obtain ⟨M5,hpr⟩:=hr.nod;have heN:∀id,get e id≠none→id<10000:=by
       intro id hid;rcases he with h1 | ⟨OZ,ao,h1⟩
       · subst h1;exact (hid rfl).elim
       · subst h1;rw[AI] at hid;split at hid
         · rename_i e1;subst e1;exact (Amo OZ).2
         · exact (hid rfl).elim
     have h2:=Ap1 (env:=st.env) (n:=st.n) (HX.app he' hf) heN M5 hq (fun x _=>hpr x) h1;refine Lh (st:=st) (fun _ _=>rfl) rfl (fun y x hk=>?_) h2;obtain ⟨⟨CO,Gz,Aqj,O4⟩,KQ⟩:=hk;rw[BH] at Gz KQ;simp only at Gz KQ;have hfy:∀z∈e,get y z.1=none:=by
       intro z hz;cases hgz:get y z.1 with
       | none=>rfl
       | some o=>
         exfalso;rcases he with rfl | ⟨OZ,ao,rfl⟩
         · cases hz
         · simp only[List.mem_singleton] at hz;subst hz;obtain ⟨SG,Hw⟩:=Amo OZ;rcases KQ (oi.dst.getD 0) (by rw[hgz];simp) with h3 | h3 | h3
           · exact h3 (hf (oi.dst.getD 0,ao) (by simp))
           · exact SG (Option.some.inj h3)
           · exact absurd Hw (Nat.not_lt.2 h3)
     refine ⟨fun e2=>by
       rw[BH];exact Av.Ao7 Gz hfy he' hf (hle (.inl e2)) (Aqj e2),?_⟩
     refine EK _ _ _ (Dw (h:=y) Vp.c) (fun z hz=>by rw[BH];exact hfy z hz) ?_;refine FX hK _ _ _ (I2.put ?_ _ _) O4;refine ⟨rfl,fun _=>rfl,fun id=>?_⟩;simp only[BH];exact HX.Fh Gz he' hfy id
   · refine EK _ _ _ (Dw (h:=st.hp) Vp.c) (fun y hy=>by rw[BH];exact hf y hy) (FX hK _ _ _ (Qx Vp.b) hn)
end
end Go.Am
namespace Go.Am
open Go
def waits (o:Oper) (i:Nat):Bool:=o.after.toList.any fun e=>Region.binds .any e&&e.on==i
def TU:Op→Bool
 | .move _ | .assign _ | .binOp _ _ _ _ _ | .unOp _ _ _ | .extract _ _=>true
 | _=>false
theorem Ae1 {P:Program} {env:List (Nat×D)} {n:Nat} {h h':Hp} {o:Oper} (hv:TU o.op=true) {k:D→Prop} (hh:(Ij P ⟨env,h,n⟩ o).all (fun x=>k x.1)):(Ij P ⟨env,h',n⟩ o).all (fun x=>x.2=h'∧k x.1):=by
 have val:∀{op:Op},H7 P ⟨env,h',n⟩ op=H7 P ⟨env,h,n⟩ op→((H7 P ⟨env,h,n⟩ op).bind fun d=> .ret True (d,h)).all (fun x=>k x.1)→((H7 P ⟨env,h',n⟩ op).bind fun d=> .ret True (d,h')).all (fun x=>x.2=h'∧k x.1):=fun e hv=>by
   rw[e];exact Rs.A3 (Rs.AE (fun d hd=>⟨hd.1,rfl,hd.2⟩) (Rs.all_bind hv))
 unfold Ij at*;generalize o.op=op at hv hh ⊢;cases op with
 | move _=>exact val rfl hh
 | assign _=>exact val rfl hh
 | binOp _ _ _ _ _=>exact val rfl hh
 | unOp _ _ _=>exact val rfl hh
 | extract _ _=>exact val rfl hh
 | _=>simp[TU] at hv
def OO (l:List Oper) (x:Nat×Nat):Prop:=(x.2=0∧∀o,l[x.1]?=some o→TU o.op=false)∨x.2=2
theorem Aod {P:Program} {l:List Oper} {hR:Hp} {K:St→Prop} (hK:Qm K) {j:Nat} {oj:Oper} (hj:l[j]?=some oj) (post:List (Nat×Nat)):∀(pre:List (Nat×Nat)) {st:St},Gp P l hR (pre++(j,4)::post) K st→
   (∀x∈pre,x.2=0∧∃oi,l[x.1]?=some oi∧L7 oi.op=true∧Ap l oi oj)→
   DC st l oj.guard (V6 P oj (Gp P l hR (pre++post) K) st) (Gp P l hR (pre++post) K (st.put oj.dst (.BA [])))
 | [],st,h,_=>by
   simp only[List.nil_append,Gp,hj] at h;exact h
 | (i,ki)::pre,st,h,hp=>by
   obtain ⟨hk,oi,ho,hv,Vp⟩:=hp (i,ki) (by simp);obtain ⟨e,d,he,hf,hg,EK,_⟩:=eff ho (.inl hk) (fun _=>hv) h;obtain rfl:e=[]:=by
     rcases he with h1 | ⟨h1,_⟩
     · exact h1
     · simp only at hk;rw[hk] at h1;cases h1
   have ih:=Aod hK hj post pre hg (fun x hx=>hp x (by simp[hx]));have hlk:Looks l oj st (({st with hp:=[]++st.hp}:St).put oi.dst d):=Dw Vp.a;have go:∀(y:Hp) (x:D),Gp P l hR (pre++post) K ((({st with hp:=y}:St).put oi.dst d).put oj.dst x)→Gp P l hR ((i,ki)::(pre++post)) K (({st with hp:=y}:St).put oj.dst x):=by
     intro y x hx;refine EK _ _ _ (Dw (h:=y) Vp.c) (fun z hz=>by cases hz) (FX hK _ _ _ ?_ hx);have h2:I2 ((({st with hp:=y}:St).put oi.dst d).put oj.dst x) ((({st with hp:=y}:St).put oj.dst x).put oi.dst d):=I2.swap Vp.b;refine h2.trans ?_;refine ⟨by simp only[Hj],fun q=>by simp only[Fg,Hj],fun id=>by simp only[BH,List.nil_append]⟩
   refine B0 hlk.2.symm (fun hy=>?_) (fun hn=>?_) ih
   · refine Lh (fun x hx=>(hlk.1 x hx).symm) (by rw[BH];rfl) (fun y x hk=>?_) hy;refine go y x (FX hK _ _ _ ?_ hk);refine ⟨by simp only[Hj],fun q=>by simp only[Fg,Hj],fun id=>by simp only[BH]⟩
   · exact go st.hp (.BA []) (FX hK _ _ _ ⟨by simp only[Hj],fun q=>by simp only[Fg,Hj,List.nil_append],fun id=>by simp only[BH,List.nil_append]⟩ hn)
def UG (l:List Oper):Nat→Nat→Nat→Bool
 | 0,_,_=>false
 | f+1,i,j=>match l[j]? with
   | some oj=>oj.after.toList.any fun e=>Region.binds .any e&&(e.on==i||UG l f i e.on)
   | none=>false
def PG (l:List Oper) (n:Nat) (x y:Nat×Nat):Bool:=
 match l[x.1]?,l[y.1]? with
 | some ox,some oy=>!waits ox y.1&&
   (if y.2=4 then UG l n x.1 y.1||(decide (x.2=0)&&TU ox.op&&L7 ox.op&&Oper.apart l.toArray ox oy) else if x.2≤1 then (waits oy x.1||(Oper.apart l.toArray ox oy&&(x.2 != 1||(ox.dst.getD 0 != oy.dst.getD 0&&decide (ox.dst.getD 0<10000)))))&&(!(y.2==3&&x.2==0)||UG l n x.1 y.1)
    else UG l n x.1 y.1&&!((x.2==3||x.2==4)&&(y.2==0||y.2==2)))
 | _,_=>false
def opB (l:List Oper) (x:Nat×Nat):Bool:=
 match l[x.1]? with
 | some o=>(match x.2 with
     | 0=>L7 o.op
     | 1=>true
     | 2 | 3=>isQ o.op
     | 4=>true
     | _=>false)&&!waits o x.1&&o.after.toList.all fun e=>!Region.binds .any e||decide (e.on<l.length)
 | none=>false
def FF (l:List Oper) (n:Nat):List (Nat×Nat)→Bool
 | []=>true
 | x::r=>r.all (PG l n x)&&FF l n r
def Alx:List Nat→Bool
 | []=>true
 | x::r=>r.all (fun y=>x != y)&&Alx r
theorem Tz:∀{l:List Nat},Alx l=true→l.Nodup
 | [],_=>List.nodup_nil
 | x::r,h=>by
   simp only[Alx,Bool.and_eq_true] at h;refine List.nodup_cons.2 ⟨fun hm=>?_,Tz h.2⟩;have:=List.all_eq_true.1 h.1 x hm;simp at this
def l7 (l:List Oper) (p:List (Nat×Nat)):Bool:=
 Alx (p.map (·.1))&&FF l l.length p&&p.all (opB l)&&p.length==l.length&&(List.range l.length).all fun i=>p.any fun x=>x.1==i
section
variable {P:Program} {l:List Oper} {hR:Hp}
theorem Mu {n:Nat} {y:Nat×Nat} {post:List (Nat×Nat)}:∀{pre:List (Nat×Nat)},FF l n (pre++y::post)=true→∀x∈pre,PG l n x y=true
 | [],_,x,hx=>by cases hx
 | z::pre,h,x,hx=>by
   simp only[List.cons_append,FF,Bool.and_eq_true] at h;rcases List.mem_cons.1 hx with rfl | hx
   · exact List.all_eq_true.1 h.1 y (by simp)
   · exact Mu h.2 x hx
theorem Ks {n:Nat} {y:Nat×Nat} {post:List (Nat×Nat)}:∀{pre:List (Nat×Nat)},FF l n (pre++y::post)=true→∀x∈post,PG l n y x=true
 | [],h,x,hx=>by
   simp only[List.nil_append,FF,Bool.and_eq_true] at h;exact List.all_eq_true.1 h.1 x hx
 | z::pre,h,x,hx=>by
   simp only[List.cons_append,FF,Bool.and_eq_true] at h;exact Ks h.2 x hx
theorem PF {n:Nat} {y:Nat×Nat} {post:List (Nat×Nat)}:∀{pre:List (Nat×Nat)},FF l n (pre++y::post)=true→FF l n (pre++post)=true
 | [],h=>by
   simp only[List.nil_append,FF,Bool.and_eq_true] at h;exact h.2
 | z::pre,h=>by
   simp only[List.cons_append,FF,Bool.and_eq_true] at h ⊢;refine ⟨List.all_eq_true.2 fun x hx=>?_,PF h.2⟩;refine List.all_eq_true.1 h.1 x ?_;rcases List.mem_append.1 hx with h1 | h1
   · exact List.mem_append_left _ h1
   · exact List.mem_append_right _ (List.mem_cons_of_mem _ h1)
def Down (l:List Oper) (listed:Array Bool):Prop:=∀k ok,l[k]?=some ok→listed.getD k false=true→∀e∈ok.after,Region.binds .any e=true→listed.getD e.on false=true
theorem Ka {listed:Array Bool} (hd:Down l listed):∀(f i j:Nat) (oj:Oper),l[j]?=some oj→(∀e∈oj.after,Region.binds .any e=true→listed.getD e.on false=true)→UG l f i j=true→listed.getD i false=true
 | 0,i,j,oj,_,_,h=>by simp[UG] at h
 | f+1,i,j,oj,hj,B4,h=>by
   simp only[UG,hj,List.any_eq_true,Bool.and_eq_true,Bool.or_eq_true,beq_iff_eq] at h;obtain ⟨e,he,hb,h1⟩:=h;have hl:=B4 e (by simpa using he) hb;rcases h1 with rfl | h1
   · exact hl
   · cases hk:l[e.on]? with
     | none=>cases f<;>simp[UG,hk] at h1
     | some ok=>exact Ka hd f i e.on ok hk (hd e.on ok hk hl) h1
theorem QG {o:Oper} {i:Nat}:waits o i=true↔∃e∈o.after,Region.binds .any e=true∧e.on=i:=by
 simp only[waits,List.any_eq_true,Bool.and_eq_true,beq_iff_eq];constructor
 · rintro ⟨e,he,h1,h2⟩;exact ⟨e,by simpa using he,h1,h2⟩
 · rintro ⟨e,he,h1,h2⟩;exact ⟨e,by simpa using he,h1,h2⟩
theorem T3 {listed:Array Bool} {i:Nat} (h:listed.getD i true=false):listed.getD i false=false:=by
 rw[Array.getD_eq_getD_getElem?] at*;cases hg:listed[i]? with
 | none=>rfl
 | some b=>rw[hg] at h;exact h
structure Inv (l:List Oper) (rest:List (Nat×Nat)) (listed:Array Bool):Prop where
 iff:∀k,k<l.length→(listed.getD k true=false↔∃x∈rest,x.1=k)
 sz:listed.size=l.length
 down:Down l listed
 Tw:FF l l.length rest=true
 ops:rest.all (opB l)=true
 len:∀x∈rest,x.1<l.length
theorem Arj {K:St→Prop} (hK:Qm K) {c:Ctx} {Q:Exit→Act→World→Prop} (hQ:∀a w,Good c K a w→Q .normal a w):∀(fuel:Nat) {rest:List (Nat×Nat)} {listed:Array Bool} {st:St} {a:Act} {w:World} {F:Nat→Prop} {M:Nat→Mb},
   rest.length=fuel→(rest.map (·.1)).Nodup→Rel c st a w F M→Gp P l hR rest K st→((∃x∈rest,OO l x)→Av st.hp hR)→Inv l rest listed→wpAny P .any l.toArray Q fuel listed a w:=by
 intro fuel
 induction fuel with
 | zero=>
   intro rest listed st a w F M hlen hnd hr hg hle hi;obtain rfl:rest=[]:=List.eq_nil_of_length_eq_zero hlen;refine ⟨?_,hQ _ _ ⟨st,F,M,hg,hr⟩⟩;refine List.eq_nil_iff_forall_not_mem.2 fun j hj=>?_;obtain ⟨h0,oj,hoj,_⟩:=mem_ready.1 hj;have AL:j<l.length:=by have:=(Array.getElem?_eq_some_iff.1 hoj).1;simpa using this
   obtain ⟨x,hx,_⟩:=(hi.iff j AL).1 h0;cases hx
 | succ fuel ih=>
   intro rest listed st a w F M hlen hnd hr hg hle hi;refine ⟨fun Awt=>?_,fun j hj=>?_⟩
   · exfalso;cases rest with
     | nil=>cases hlen
     | cons x r=>
       have NQ:x.1∈Region.ready .any l.toArray listed:=by
         have AL:=hi.len x (by simp);refine mem_ready.2 ⟨(hi.iff x.1 AL).2 ⟨x,by simp,rfl⟩,l[x.1],by simp[AL],fun e he hb=>?_⟩;have II:opB l x=true:=List.all_eq_true.1 hi.ops x (by simp);have hox:l[x.1]?=some l[x.1]:=List.getElem?_eq_getElem AL;simp only[opB,hox,Bool.and_eq_true,List.all_eq_true,Bool.or_eq_true,Bool.not_eq_true',decide_eq_true_eq] at II;have Ats:=(II.2 e (by simpa using he)).resolve_left (by rw[hb];simp);cases hle:listed.getD e.on true with
         | true=>
           rw[Array.getD_eq_getD_getElem?] at hle ⊢;have:e.on<listed.size:=by rw[hi.sz];exact Ats
           rw[Array.getElem?_eq_getElem this] at hle ⊢;exact hle
         | false=>
           exfalso;obtain ⟨y,hy,hye⟩:=(hi.iff e.on Ats).1 hle;have hw:waits l[x.1] y.1=true:=QG.2 ⟨e,he,hb,hye.symm⟩;rcases List.mem_cons.1 hy with rfl | hy
           · rw[hw] at II;simp at II
           · have hp:=hi.Tw;simp only[FF,Bool.and_eq_true] at hp;have:=List.all_eq_true.1 hp.1 y hy;unfold PG at this;rw[hox] at this;split at this
             · rename_i ox oy h1 h2;cases h1;rw[hw] at this;simp at this
             · cases this
       rw[Awt] at NQ;cases NQ
   · obtain ⟨h0,oj,hoj,B4⟩:=mem_ready.1 hj;have AL:j<l.length:=by have:=(Array.getElem?_eq_some_iff.1 hoj).1;simpa using this
     have LW:l[j]?=some oj:=by simpa using hoj
     obtain ⟨x,hx,rfl⟩:=(hi.iff j AL).1 h0;obtain ⟨j,kj⟩:=x;obtain ⟨pre,post,rfl⟩:=List.append_of_mem hx;simp only at hoj LW h0 B4 AL hj ⊢;have J1:∀x∈pre,x.2≤1∧∃oi,l[x.1]?=some oi∧(x.2=0→L7 oi.op=true)∧Ap l oi oj∧(x.2=1→oi.dst.getD 0≠oj.dst.getD 0∧oi.dst.getD 0<10000)∧¬(kj=3∧x.2=0):=by
       intro x hx;have hp:=Mu hi.Tw x hx;have Abr:x∈pre++(j,kj)::post:=by simp[hx]
       have W0:=hi.len x Abr;have hun:listed.getD x.1 false=false:=T3 ((hi.iff x.1 W0).2 ⟨x,Abr,rfl⟩);have hox:l[x.1]?=some l[x.1]:=List.getElem?_eq_getElem W0;have II:opB l x=true:=List.all_eq_true.1 hi.ops x Abr;have hnt:UG l l.length x.1 j≠true:=fun ht=>by
         have:=Ka hi.down _ _ _ oj LW B4 ht;rw[hun] at this;cases this
       have hnw:waits oj x.1≠true:=fun hw=>by
         obtain ⟨e,he,hb,hye⟩:=QG.1 hw;have:=B4 e he hb;rw[hye,hun] at this;cases this
       unfold PG at hp;rw[hox,LW] at hp;simp only[Bool.and_eq_true] at hp;obtain ⟨_,hp⟩:=hp;split at hp
       · rename_i h4;simp only[Bool.or_eq_true,Bool.and_eq_true,decide_eq_true_eq] at hp;rcases hp with hp | ⟨⟨⟨h1,h2⟩,h3⟩,h5⟩
         · exact (hnt hp).elim
         · obtain ⟨s1,s2,s3⟩:=Oper.apart_spec h5;exact ⟨by omega,l[x.1],hox,fun _=>h3,⟨s1,s2,s3⟩,fun h=>by omega,fun ⟨h,_⟩=>by omega⟩
       split at hp
       · rename_i Aqj;simp only[Bool.and_eq_true,Bool.or_eq_true] at hp;obtain ⟨hp1,Jq⟩:=hp;have hp1:=hp1.resolve_left hnw;obtain ⟨s1,s2,s3⟩:=Oper.apart_spec hp1.1;refine ⟨Aqj,l[x.1],hox,fun hz=>?_,⟨s1,s2,s3⟩,fun h1=>?_,fun ⟨h3,hz⟩=>?_⟩
         · simp only[opB,hox,hz,Bool.and_eq_true] at II;exact II.1.1
         · have:=hp1.2.resolve_left (by simp[h1])
           simpa using this
         · exact hnt (Jq.resolve_left (by simp[h3,hz]))
       · simp only[Bool.and_eq_true] at hp;exact (hnt hp.1).elim
     have NN:opB l (j,kj)=true:=List.all_eq_true.1 hi.ops _ (by simp);have Atf:((pre++post).map (·.1)).Nodup∧∀x∈pre++post,x.1≠j:=by
       rw[List.map_append,List.map_cons] at hnd;obtain ⟨h1,h2,h3⟩:=List.nodup_append.1 hnd;obtain ⟨h4,h5⟩:=List.nodup_cons.1 h2;refine ⟨?_,fun x hx e=>?_⟩
       · rw[List.map_append];exact List.nodup_append.2 ⟨h1,h5,fun a ha b hb=>h3 a ha b (List.mem_cons_of_mem _ hb)⟩
       · rcases List.mem_append.1 hx with h6 | h6
         · exact h3 x.1 (List.mem_map_of_mem h6) j (by simp) e
         · exact h4 (by simp only;rw[←e];exact List.mem_map_of_mem h6)
     have RF:Inv l (pre++post) (listed.setIfInBounds j true):=by
       refine ⟨fun k hk=>?_,by simp[hi.sz],?_,PF hi.Tw,?_,fun x hx=>hi.len x (by rcases List.mem_append.1 hx with h | h<;>simp[h])⟩
       · by_cases e:j=k
         · subst e;have:(listed.setIfInBounds j true).getD j true=true:=by
             rw[Array.getD_eq_getD_getElem?,Array.getElem?_setIfInBounds];simp[hi.sz,AL]
           rw[this];refine ⟨fun h=>(by cases h),fun ⟨x,hx,hxe⟩=>(Atf.2 x hx hxe).elim⟩
         · rw[getD_set_ne true e,hi.iff k hk];constructor
           · rintro ⟨x,hx,hxe⟩;rcases List.mem_append.1 hx with h | h
             · exact ⟨x,List.mem_append_left _ h,hxe⟩
             · rcases List.mem_cons.1 h with rfl | h
               · exact (e hxe).elim
               · exact ⟨x,List.mem_append_right _ h,hxe⟩
           · rintro ⟨x,hx,hxe⟩;exact ⟨x,by rcases List.mem_append.1 hx with h | h<;>simp[h],hxe⟩
       · intro k ok hk Yu e he hb;by_cases ee:j=k
         · subst ee;rw[LW] at hk;cases hk;exact getD_set_true (B4 e he hb)
         · rw[getD_set_ne false ee] at Yu;exact getD_set_true (hi.down k ok hk Yu e he hb)
       · refine List.all_eq_true.2 fun x hx=>List.all_eq_true.1 hi.ops x ?_;rcases List.mem_append.1 hx with h | h<;>simp[h]
     have Atk:(pre++post).length=fuel:=by simp at hlen ⊢;omega
     have next:∀{s a' w' F' M'},Rel c s a' w' F' M'→Gp P l hR (pre++post) K s→((∃x∈pre++post,OO l x)→Av s.hp hR)→wpAny P .any l.toArray Q fuel (listed.setIfInBounds j true) a' w':=
       fun IZ hg' Atl=>ih Atk Atf.1 IZ hg' Atl RF
     have GA:(∃x∈pre++post,OO l x)→Av st.hp hR:=fun ⟨x,hx,h2⟩=>hle ⟨x,by rcases List.mem_append.1 hx with h | h<;>simp[h],h2⟩;have main:DC st l oj.guard (V6 P oj (fun s=>((∃x∈pre++post,OO l x)→Av s.hp hR)∧Gp P l hR (pre++post) K s) st) (Gp P l hR (pre++post) K (st.put oj.dst (.BA []))):=by
       have two:∀x∈pre,x.2=0∨x.2=1:=fun x hx=>by have:=(J1 x hx).1;omega
       match kj,hg,hle,J1,NN,hi with
       | 0,hg,hle,J1,NN,hi=>
         have h1:=Aoe hK LW post pre hg (fun x hx=>⟨two x hx,by obtain ⟨_,oi,h1,h2,h3,_⟩:=J1 x hx;exact ⟨oi,h1,h2,h3⟩⟩);have hv:L7 oj.op=true:=by simp only[opB,LW,Bool.and_eq_true] at NN;exact NN.1.1
         refine B0 rfl (fun hy=>?_) id h1;have h2:(Ij P st oj).all (fun x=>x.2=st.hp∧Gp P l hR (pre++post) K (st.put oj.dst x.1)):=by
           by_cases hls:TU oj.op=true
           · exact Ae1 (k:=fun d=>Gp P l hR (pre++post) K (st.put oj.dst d)) hls hy
           · have hl:=hle ⟨(j,0),by simp,.inl ⟨rfl,fun o ho=>by rw[LW] at ho;cases ho;simpa using hls⟩⟩;exact doV (k:=fun d=>Gp P l hR (pre++post) K (st.put oj.dst d)) hl.hx hv hy
         exact .inl <| Oy (WU hv) (Rs.AE (fun x hx=>by
           obtain ⟨e1,e2⟩:=hx;rw[e1];exact ⟨fun hh=>by rw[BH];exact GA hh,e2⟩) h2)
       | 1,hg,hle,J1,NN,hi=>
         have h1:=Aof hK LW post pre hg (fun x hx=>⟨two x hx,by obtain ⟨_,oi,h1,h2,h3,h4,_⟩:=J1 x hx;exact ⟨oi,h1,h2,h3,fun e=>(h4 e).1⟩⟩);refine B0 rfl (fun hy=>?_) id h1;obtain ⟨x,hx,hb⟩:=Rs.leaf hy;obtain ⟨h2,h3,h4⟩:=Uw (K:=fun s=>((∃x∈pre++post,OO l x)→Av s.hp hR)∧Gp P l hR (pre++post) K s) (Rs.AE (fun y hy=>⟨hy.1,fun hh=>by
           rw[BH];exact Av.app (.inr ⟨_,rfl⟩) (fun z hz=>by simp only[List.mem_singleton] at hz;subst hz;exact hy.1) (GA hh),hy.2⟩) hy)
         exact .inl <| Oy h2 (by rw[h3];exact h4)
       | 2,hg,hle,J1,NN,hi=>
         have hq:isQ oj.op=true:=by simp only[opB,LW,Bool.and_eq_true] at NN;exact NN.1.1
         have h1:=Ag7 hK LW (.inl rfl) hq post pre hr hg (fun _=>hle ⟨(j,2),by simp,.inr rfl⟩) (fun x hx=>⟨two x hx,by obtain ⟨_,oi,h1,h2,h3,h4,_⟩:=J1 x hx;exact ⟨oi,h1,h2,h3,h4⟩⟩);exact B0 rfl (fun hy=>EX (fun s hs=>⟨fun _=>hs.1 rfl,hs.2⟩) hy) id h1
       | 3,hg,hle,J1,NN,hi=>
         have hq:isQ oj.op=true:=by simp only[opB,LW,Bool.and_eq_true] at NN;exact NN.1.1
         have M5:∀x∈pre++post,¬(x.2=0∨x.2=2):=by
           intro x hx h2;rcases List.mem_append.1 hx with h | h
           · obtain ⟨h3,oi,_,_,_,_,h4⟩:=J1 x h;rcases h2 with h2 | h2
             · exact h4 ⟨rfl,h2⟩
             · omega
           · have hp:=Ks hi.Tw x h;unfold PG at hp;split at hp
             · rw[if_neg (by omega),if_neg (by simp)] at hp;rcases h2 with h2 | h2<;>simp[h2] at hp
             · cases hp
         have h1:=Ag7 hK LW (.inr rfl) hq post pre hr hg (fun hh=>by
           rcases hh with h | ⟨x,hx,h2⟩
           · cases h
           · exact (M5 x (List.mem_append_left _ hx) (.inl h2)).elim) (fun x hx=>⟨two x hx,by obtain ⟨_,oi,h1,h2,h3,h4,_⟩:=J1 x hx;exact ⟨oi,h1,h2,h3,h4⟩⟩)
         exact B0 rfl (fun hy=>EX (fun s hs=>⟨fun ⟨x,hx,h2⟩=>(M5 x hx (h2.imp And.left id)).elim,hs.2⟩) hy) id h1
       | 4,hg,hle,J1,NN,hi=>
         have M6:∀x∈pre,x.2=0∧∃oi,l[x.1]?=some oi∧L7 oi.op=true∧Ap l oi oj∧TU oi.op=true:=by
           intro x hx;have hp:=Mu hi.Tw x hx;have Abr:x∈pre++(j,4)::post:=by simp[hx]
           have W0:=hi.len x Abr;have hun:listed.getD x.1 false=false:=T3 ((hi.iff x.1 W0).2 ⟨x,Abr,rfl⟩);have hox:l[x.1]?=some l[x.1]:=List.getElem?_eq_getElem W0;unfold PG at hp;rw[hox,LW] at hp;simp only[if_true,Bool.and_eq_true,Bool.or_eq_true,decide_eq_true_eq] at hp;rcases hp.2 with h | ⟨⟨⟨h1,h2⟩,h3⟩,h5⟩
           · have:=Ka hi.down _ _ _ oj LW B4 h;rw[hun] at this;cases this
           · obtain ⟨s1,s2,s3⟩:=Oper.apart_spec h5;exact ⟨h1,l[x.1],hox,h3,⟨s1,s2,s3⟩,h2⟩
         have M5:∀x∈pre++post,¬OO l x:=by
           intro x hx h2;rcases List.mem_append.1 hx with h | h
           · obtain ⟨g1,oi,g2,_,_,g3⟩:=M6 x h;rcases h2 with ⟨_,h2⟩ | h2
             · have:=h2 oi g2;rw[g3] at this;cases this
             · omega
           · have hp:=Ks hi.Tw x h;unfold PG at hp;split at hp
             · rename_i ox oy e1 e2;by_cases h4:x.2=4
               · rcases h2 with ⟨h2,_⟩ | h2<;>omega
               · rw[if_neg h4,if_neg (by simp)] at hp;rcases h2 with ⟨h2,_⟩ | h2<;>simp[h2] at hp
             · cases hp
         have h1:=Aod hK LW post pre hg (fun x hx=>by obtain ⟨g1,oi,g2,g3,g4,_⟩:=M6 x hx;exact ⟨g1,oi,g2,g3,g4⟩);exact B0 rfl (fun hy=>EX (fun s hs=>⟨fun ⟨x,hx,h2⟩=>(M5 x hx h2).elim,hs⟩) hy) id h1
       | kj+5,hg,hle,J1,NN,hi=>simp[opB,LW] at NN
     unfold wpOp;rw[hoj];simp only;have Oq:=PO (ops:=l.toArray) hr main;rcases Oq with ⟨hw,hy⟩ | ⟨hw,hn⟩
     · rw[if_pos hw];refine .inl (Oper.wp_mono (fun a' w' hgd=>?_) (w8 hr hy Q));obtain ⟨s,F',M',⟨h1,h2⟩,IZ⟩:=hgd;exact next IZ h2 h1
     · rw[if_neg (by rw[hw];simp)];exact next (hr.put (.BA [] #[] rfl (fun i d hd=>by simp at hd)) oj.dst) hn (fun hh=>by rw[BH];exact GA hh)
end
end Go.Am
namespace Go.Am
open Go
section
variable {P:Program} {l:List Oper} {hR:Hp}
theorem LK {K K':St→Prop} (hK:∀s,K s→K' s):∀(r:List (Nat×Nat)) {st:St},Gp P l hR r K st→Gp P l hR r K' st
 | [],st,h=>hK _ h
 | (i,kd)::r,st,h=>by
   simp only[Gp] at h ⊢;split at h
   · exact h.elim
   · rename_i o ho;try simp only[ho]
     refine B0 rfl (fun hy=>?_) (fun hn=>LK hK r hn) h;split at hy
     · exact Rs.AE (fun x hx=>LK hK r hx) hy
     · exact Rs.AE (fun x hx=>⟨hx.1,LK hK r hx.2⟩) hy
     · exact EX (fun s hs=>⟨hs.1,LK hK r hs.2⟩) hy
     · exact EX (fun s hs=>LK hK r hs) hy
def wDg (P:Program) (o:Oper) (K:St→Prop) (st:St):Prop:=
 match Bz o.op with
 | some (f,args)=>(EP st f args).HG (Sz P o K st) fun x=>JF (Sz P o K st) P x.2.2 x.1 x.2.1 (o.dst.getD 0) fun d h'=>K (({st with hp:=h'}:St).put o.dst d)
 | none=>(Ij P st o).all fun x=>K (({st with hp:=x.2}:St).put o.dst x.1)
theorem Rs.Lf {α:Type} {S T:Prop} {k k':α→Prop} (hk:∀x,k x→k' x∨T) (hS:S→T):∀{r:Rs α},r.HG S k→r.all k'∨T
 | .fail,h=> .inr (hS h)
 | .ret p x,h=>(hk x h.2).elim (fun h2=> .inl ⟨h.1,h2⟩) .inr
 | .split b x y,h=>by
   cases b
   · exact (Rs.Lf hk hS (h.2 rfl)).elim (fun h2=> .inl ⟨fun e=>(Bool.false_ne_true e).elim,fun _=>h2⟩) .inr
   · exact (Rs.Lf hk hS (h.1 rfl)).elim (fun h2=> .inl ⟨fun _=>h2,fun e=>(Bool.false_ne_true e.symm).elim⟩) .inr
theorem Ao6 {o:Oper} {K:St→Prop} {st:St} (h:wDg P o K st):V6 P o K st:=by
 unfold wDg at h;unfold V6 OA;split at h
 · rename_i f args hc;try simp only[hc]
   refine (Rs.Lf (k':=fun x:FuncId×List D×Hp=>Fx P x.2.2 x.1 x.2.1 (o.dst.getD 0) fun d h'=>K (({st with hp:=h'}:St).put o.dst d)) (fun x hx=>Pm hx) id h).imp (fun h2=>?_) id;exact Rs.C9 (Rs.AE (fun x hx=>Ut hx) h2)
 · rename_i hc;try simp only[hc]
   exact .inl (Rs.C9 h)
def Gw (P:Program) (l:List Oper) (hR:Hp):List (Nat×Nat)→(St→Prop)→St→Prop
 | [],K,st=>K st
 | (i,kd)::r,K,st=>match l[i]? with
   | none=>False
   | some o=>DC st l o.guard (match kd with
     | 0=>(Ij P {st with hp:=hR} o).all fun x=>Gw P l hR r K (st.put o.dst x.1)
     | 1=>(GG P st (o.dst.getD 0) o.op).all fun x=>get st.hp (o.dst.getD 0)=none∧Gw P l hR r K (({st with hp:=(o.dst.getD 0,x.2)::st.hp}:St).put o.dst x.1)
     | 2=>wDg P o (fun s=>Av s.hp hR∧Gw P l hR r K s) st
     | _=>wDg P o (Gw P l hR r K) st) (Gw P l hR r K (st.put o.dst (.BA [])))
theorem UA {K:St→Prop}:∀(r:List (Nat×Nat)) {st:St},Gw P l hR r K st→Gp P l hR r K st
 | [],st,h=>h
 | (i,kd)::r,st,h=>by
   simp only[Gw] at h;simp only[Gp];split at h
   · exact h.elim
   · rename_i o ho;try simp only[ho]
     refine B0 rfl (fun hy=>?_) (fun hn=>UA r hn) h
     match kd,hy with
     | 0,hy=>exact Rs.AE (fun x hx=>UA r hx) hy
     | 1,hy=>exact Rs.AE (fun x hx=>⟨hx.1,UA r hx.2⟩) hy
     | 2,hy=>exact EX (fun s hs=>⟨hs.1,UA r hs.2⟩) (Ao6 hy)
     | kd+3,hy=>exact EX (fun s hs=>UA r hs) (Ao6 hy)
def G (P:Program) (l:List Oper) (hR:Hp) (r:List (Nat×Nat)) (k:Kt) (st:St):Prop:=Gw P l hR r (k.Df P .normal) st
theorem Aat {p:List (Nat×Nat)} (h:l7 l p=true):(p.map (·.1)).Nodup∧p.length=l.length∧Inv l p (Array.replicate l.length false):=by
 simp only[l7,Bool.and_eq_true,beq_iff_eq] at h;obtain ⟨⟨⟨⟨h0,h1⟩,h2⟩,h3⟩,h4⟩:=h;have hlen:∀x∈p,x.1<l.length:=by
   intro x hx;have:=List.all_eq_true.1 h2 x hx;unfold opB at this;split at this
   · rename_i o ho;exact (List.getElem?_eq_some_iff.1 ho).1
   · cases this
 have GA:List.range l.length ⊆ p.map (·.1):=by
   intro i hi;have:=List.all_eq_true.1 h4 i hi;obtain ⟨x,hx,hxi⟩:=List.any_eq_true.1 this;exact List.mem_map.2 ⟨x,hx,by simpa using hxi⟩
 have hnd:=Tz h0;refine ⟨hnd,h3,⟨fun k hk=>?_,by simp,fun k ok hk hl=>?_,h1,h2,hlen⟩⟩
 · rw[Array.getD_eq_getD_getElem?,Array.getElem?_replicate,if_pos hk];refine ⟨fun _=>?_,fun _=>rfl⟩;obtain ⟨x,hx,hxi⟩:=List.mem_map.1 (GA (List.mem_range.2 hk));exact ⟨x,hx,hxi⟩
 · exfalso;rw[Array.getD_eq_getD_getElem?,Array.getElem?_replicate] at hl;split at hl<;>simp at hl
theorem BB {id:Nat} {p:List (Nat×Nat)} {k:Kt} {st:St} (hR:Hp) (hm:P.follows .mixedOrders=true) (hB:l7 l p=true) (hle:Av st.hp hR) (h:G P l hR p k st):X P (.region id l.toArray true) k st:=by
 refine .inr ⟨rfl,fun c a w F M hr=>?_⟩;obtain ⟨hnd,hl,hi⟩:=Aat hB;refine wp_region_any hm ?_;have Fa:Rel c st a {w with drawn:=w.drawn+1} F M:=hr.drew;have:=Arj (P:=P) (l:=l) (hR:=hR) (Qm.of (k.Df P .normal)) (c:=c) (Q:=QC c (k.Df P)) (fun a w ⟨s,F,M,⟨s',he,hk⟩,hr⟩=>⟨s',F,M,hk,hr.eqv he⟩) l.length hl hnd Fa
   (LK (fun s hs=>⟨s,I2.refl s,hs⟩) p (UA p h)) (fun _=>hle) hi
 simpa using this
end
def Hd (kd:Nat) (h hR:Hp):Prop:=match kd with
 | 2=>Av h hR
 | _=>True
theorem Arf (h hR:Hp):Hd 2 h hR=Av h hR:=nd rfl
theorem Akx (h hR:Hp):Hd 3 h hR=True:=nd rfl
def Gf (P:Program) (l:List Oper) (hR:Hp) (r:List (Nat×Nat)) (k:Kt) (o:Oper) (st:St) (x:Rs (D×Hp)):Prop:=x.all fun x=>G P l hR r k (st.put o.dst x.1)
def Ga (P:Program) (l:List Oper) (hR:Hp) (r:List (Nat×Nat)) (k:Kt) (o:Oper) (st:St) (x:Rs (D×AO)):Prop:=
 x.all fun x=>get st.hp (o.dst.getD 0)=none∧G P l hR r k (({st with hp:=(o.dst.getD 0,x.2)::st.hp}:St).put o.dst x.1)
def Gs (P:Program) (l:List Oper) (hR:Hp) (r:List (Nat×Nat)) (k:Kt) (kd:Nat) (o:Oper) (st:St) (x:Rs (D×Hp)):Prop:=
 x.all fun x=>Hd kd x.2 hR∧G P l hR r k (({st with hp:=x.2}:St).put o.dst x.1)
def Bq (P:Program) (l:List Oper) (hR:Hp) (r:List (Nat×Nat)) (k:Kt) (kd:Nat) (o:Oper) (st:St):Prop:=Sz P o (fun s=>Hd kd s.hp hR∧G P l hR r k s) st
def Gc (P:Program) (l:List Oper) (hR:Hp) (r:List (Nat×Nat)) (k:Kt) (kd:Nat) (o:Oper) (st:St) (x:Rs (FuncId×List D×Hp)):Prop:=
 x.HG (Bq P l hR r k kd o st) fun x=>JF (Bq P l hR r k kd o st) P x.2.2 x.1 x.2.1 (o.dst.getD 0) fun d h'=>Hd kd h' hR∧G P l hR r k (({st with hp:=h'}:St).put o.dst d)
def Gk (P:Program) (l:List Oper) (hR:Hp) (r:List (Nat×Nat)) (k:Kt) (kd:Nat) (dst:Option Nat) (st:St) (f:FuncId) (ds:List D) (h:Hp) (T:List Nat) (S:Prop):Prop:=
 (Aj P f (F3 (idx T base) ds) (sub h (idx T base) base T) fun h' x=>fresh (dst.getD 0) h h'∧Hd kd (merge T (dst.getD 0) h h') hR∧G P l hR r k (({st with hp:=merge T (dst.getD 0) h h'}:St).put dst (x.CA (back T (dst.getD 0)))))∨S
def Ge (P:Program) (l:List Oper) (hR:Hp) (r:List (Nat×Nat)) (k:Kt) (o:Oper) (st:St):Nat→Prop
 | 0=>Gf P l hR r k o st (Ij P {st with hp:=hR} o)
 | 1=>Ga P l hR r k o st (GG P st (o.dst.getD 0) o.op)
 | 2=>match Bz o.op with
   | some (f,args)=>Gc P l hR r k 2 o st (EP st f args)
   | none=>Gs P l hR r k 2 o st (Ij P st o)
 | _=>match Bz o.op with
   | some (f,args)=>Gc P l hR r k 3 o st (EP st f args)
   | none=>Gs P l hR r k 3 o st (Ij P st o)
def Gd (P:Program) (l:List Oper) (hR:Hp) (r:List (Nat×Nat)) (k:Kt) (kd:Nat) (o:Oper) (st:St):Gv→Prop
 | .yes=>Ge P l hR r k o st kd
 | .no=>G P l hR r k (st.put o.dst (.BA []))
 | .cond b=>Uz b (Ge P l hR r k o st kd) (G P l hR r k (st.put o.dst (.BA [])))
 | .bad=>False
def Gg (P:Program) (l:List Oper) (hR:Hp) (r:List (Nat×Nat)) (k:Kt) (kd:Nat) (st:St):Option Oper→Prop
 | none=>False
 | some o=>Gd P l hR r k kd o st (Ii st l o.guard)
section
variable {P:Program} {l:List Oper} {hR:Hp} {r:List (Nat×Nat)} {k:Kt} {o:Oper} {st:St} {kd:Nat} {b:Bool} {dst:Option Nat}
theorem V8 {f:Operand} {args:List Operand} {K:St→Prop} (hc:Bz o.op=some (f,args)):wDg P o K st=(EP st f args).HG (Sz P o K st) fun x=>JF (Sz P o K st) P x.2.2 x.1 x.2.1 (o.dst.getD 0) fun d h'=>K (({st with hp:=h'}:St).put o.dst d):=by
 unfold wDg;rw[hc]
theorem V7 {K:St→Prop} (hc:Bz o.op=none):wDg P o K st=(Ij P st o).all fun x=>K (({st with hp:=x.2}:St).put o.dst x.1):=by
 unfold wDg;rw[hc]
theorem Aux:G P l hR [] k st=J P k .normal st:=nd rfl
theorem Arr (i:Nat):G P l hR ((i,kd)::r) k st=Gg P l hR r k kd st l[i]?:=by
 unfold G;simp only[Gw];cases l[i]? with
 | none=>rfl
 | some o=>
   simp only[Gg];rw[EL];have e:(match kd with
     | 0=>(Ij P {st with hp:=hR} o).all fun x=>Gw P l hR r (k.Df P .normal) (st.put o.dst x.1)
     | 1=>(GG P st (o.dst.getD 0) o.op).all fun x=>get st.hp (o.dst.getD 0)=none∧Gw P l hR r (k.Df P .normal) (({st with hp:=(o.dst.getD 0,x.2)::st.hp}:St).put o.dst x.1)
     | 2=>wDg P o (fun s=>Av s.hp hR∧Gw P l hR r (k.Df P .normal) s) st
     | _=>wDg P o (Gw P l hR r (k.Df P .normal)) st)=Ge P l hR r k o st kd:=by
     match kd with
     | 0=>rfl
     | 1=>rfl
     | 2=>
       simp only[Ge];cases hc:Bz o.op with
       | none=>simp only[V7 hc,BH];rfl
       | some x=>obtain ⟨f,args⟩:=x;simp only[V8 hc,Gc,Bq,Hd,BH];rfl
     | kd+3=>
       simp only[Ge];cases hc:Bz o.op with
       | none=>simp only[V7 hc,Gs,Hd,true_and];rfl
       | some x=>obtain ⟨f,args⟩:=x;simp only[V8 hc,Gc,Bq,Hd,true_and];rfl
   cases Ii st l o.guard with
   | yes=>exact e
   | no=>rfl
   | bad=>rfl
   | cond b=>exact congrArg (fun x=>Uz b x (Gw P l hR r (k.Df P .normal) (st.put o.dst (.BA [])))) e
theorem Anu:Gg P l hR r k kd st (some o)=Gd P l hR r k kd o st (Ii st l o.guard):=nd rfl
theorem Aro:Gd P l hR r k kd o st .yes=Ge P l hR r k o st kd:=nd rfl
theorem Auw:Gd P l hR r k kd o st .no=G P l hR r k (st.put o.dst (.BA [])):=nd rfl
theorem Anz:Gd P l hR r k kd o st (.cond true)=Ge P l hR r k o st kd:=by simp[Gd]
theorem Al1:Gd P l hR r k kd o st (.cond false)=G P l hR r k (st.put o.dst (.BA [])):=by simp[Gd]
theorem Anw:Ge P l hR r k o st 0=Gf P l hR r k o st (Ij P {st with hp:=hR} o):=nd rfl
theorem Arn:Ge P l hR r k o st 1=Ga P l hR r k o st (GG P st (o.dst.getD 0) o.op):=nd rfl
theorem Arm:Ge P l hR r k o st 2=match Bz o.op with
   | some (f,args)=>Gc P l hR r k 2 o st (EP st f args)
   | none=>Gs P l hR r k 2 o st (Ij P st o):=nd rfl
theorem Al0:Ge P l hR r k o st 3=match Bz o.op with
   | some (f,args)=>Gc P l hR r k 3 o st (EP st f args)
   | none=>Gs P l hR r k 3 o st (Ij P st o):=nd rfl
theorem Anx:Ge P l hR r k o st 4=match Bz o.op with
   | some (f,args)=>Gc P l hR r k 3 o st (EP st f args)
   | none=>Gs P l hR r k 3 o st (Ij P st o):=nd rfl
theorem Arl (p:Prop) (d:D) (h:Hp):Gf P l hR r k o st (.ret p (d,h))=(p∧G P l hR r k (st.put o.dst d)):=nd rfl
theorem Anv (x y:Rs (D×Hp)):Gf P l hR r k o st (.split true x y)=Gf P l hR r k o st x:=by simp[Gf,Rs.all]
theorem Akz (x y:Rs (D×Hp)):Gf P l hR r k o st (.split false x y)=Gf P l hR r k o st y:=by simp[Gf,Rs.all]
theorem Arq (p:Prop) (d:D) (ao:AO):Ga P l hR r k o st (.ret p (d,ao))=(p∧get st.hp (o.dst.getD 0)=none∧G P l hR r k (({st with hp:=(o.dst.getD 0,ao)::st.hp}:St).put o.dst d)):=nd rfl
theorem Ari (p:Prop) (d:D) (h:Hp):Gs P l hR r k kd o st (.ret p (d,h))=(p∧Hd kd h hR∧G P l hR r k (({st with hp:=h}:St).put o.dst d)):=nd rfl
theorem Arp (p:Prop) (f:FuncId) (ds:List D) (h:Hp):Gc P l hR r k kd o st (.ret p (f,ds,h))=
   (p∧(B9 h (Ai ds)).Nodup∧((B9 h (Ai ds)).all fun id=>(get h id).isSome)=true∧Gk P l hR r k kd o.dst st f ds h (B9 h (Ai ds)) (Bq P l hR r k kd o st)):=nd rfl
end
def Cc (P:Program) (s:Bool) (ops rest:List Oper) (k:Kt) (dst:Option Nat) (st:St) (h:Hp) (T:List Nat) (f:FuncId) (ds:List D) (hs:Hp) (S:Prop):Prop:=
 (Aj P f ds hs fun h' r=>fresh (dst.getD 0) h h'∧O P s ops rest k (({st with hp:=merge T (dst.getD 0) h h'}:St).put dst (r.CA (back T (dst.getD 0)))))∨S
theorem Av0 (P:Program) (s:Bool) (ops rest:List Oper) (k:Kt) (dst:Option Nat) (st:St) (f:FuncId) (ds:List D) (h:Hp) (T:List Nat) (S:Prop):
   Ck P s ops rest k dst st f ds h T S=Cc P s ops rest k dst st h T f (F3 (idx T base) ds) (sub h (idx T base) base T) S:=nd rfl
theorem Au {P:Program} {s:Bool} {ops rest:List Oper} {k:Kt} {dst:Option Nat} {st:St} {h:Hp} {T:List Nat} {f:FuncId} {ds:List D} {hs:Hp} {S:Prop} {R:Hp→D→Prop} (hc:Aj P f ds hs R)
   (hk:∀h' r,R h' r→fresh (dst.getD 0) h h'∧O P s ops rest k (({st with hp:=merge T (dst.getD 0) h h'}:St).put dst (r.CA (back T (dst.getD 0))))):Cc P s ops rest k dst st h T f ds hs S:= .inl (hc.mono hk)
def Kc (P:Program) (f:FuncId) (ds:List D) (hs h:Hp) (T:List Nat) (q:Nat) (k:D→Hp→Prop):Prop:=Aj P f ds hs fun h' r=>fresh q h h'∧k (r.CA (back T q)) (merge T q h h')
theorem Sw {P:Program} {f:FuncId} {ds:List D} {hs h:Hp} {T:List Nat} {q:Nat} {k:D→Hp→Prop} {R:Hp→D→Prop} (hc:Aj P f ds hs R)
   (hk:∀h' r,R h' r→fresh q h h'∧k (r.CA (back T q)) (merge T q h h')):Kc P f ds hs h T q k:=hc.mono hk
theorem HF (P:Program) (h:Hp) (f:FuncId) (ds:List D) (q:Nat) (k:D→Hp→Prop):
   Fx P h f ds q k=((B9 h (Ai ds)).Nodup∧((B9 h (Ai ds)).all fun id=>(get h id).isSome)=true∧
     Kc P f (F3 (idx (B9 h (Ai ds)) base) ds) (sub h (idx (B9 h (Ai ds)) base) base (B9 h (Ai ds))) h (B9 h (Ai ds)) q k):=nd rfl
theorem MW {P:Program} {ops rest:List Oper} {k:Kt} {dst:Option Nat} {st:St} {h:Hp} {T:List Nat} {f:FuncId} {ds:List D} {hs:Hp} {o:Oper} {fo:Operand} {args:List Operand} {g:FuncId} {cap:List D}
   (hc:Bz o.op=some (fo,args)) (hg:ev st fo= .fn g cap) (hk:Fx P st.hp g (args.map (ev st)++cap) (o.dst.getD 0) fun d h'=>O P true ops rest k (({st with hp:=h'}:St).put o.dst d)):
   Cc P true ops rest k dst st h T f ds hs (Sm P true ops rest k o st):=by
 refine .inr ⟨rfl,fun c a w F M Q hr=>?_⟩;exact Aay hr hc hg hk Q
def Gh (P:Program) (l:List Oper) (hR:Hp) (r:List (Nat×Nat)) (k:Kt) (kd:Nat) (dst:Option Nat) (st:St) (h:Hp) (T:List Nat) (f:FuncId) (ds:List D) (hs:Hp) (S:Prop):Prop:=
 (Aj P f ds hs fun h' x=>fresh (dst.getD 0) h h'∧Hd kd (merge T (dst.getD 0) h h') hR∧G P l hR r k (({st with hp:=merge T (dst.getD 0) h h'}:St).put dst (x.CA (back T (dst.getD 0)))))∨S
theorem Auv (P:Program) (l:List Oper) (hR:Hp) (r:List (Nat×Nat)) (k:Kt) (kd:Nat) (dst:Option Nat) (st:St) (f:FuncId) (ds:List D) (h:Hp) (T:List Nat) (S:Prop):
   Gk P l hR r k kd dst st f ds h T S=Gh P l hR r k kd dst st h T f (F3 (idx T base) ds) (sub h (idx T base) base T) S:=nd rfl
theorem Bu {P:Program} {l:List Oper} {hR:Hp} {r:List (Nat×Nat)} {k:Kt} {kd:Nat} {dst:Option Nat} {st:St} {h:Hp} {T:List Nat} {f:FuncId} {ds:List D} {hs:Hp} {S:Prop} {R:Hp→D→Prop} (hc:Aj P f ds hs R)
   (hk:∀h' x,R h' x→fresh (dst.getD 0) h h'∧Hd kd (merge T (dst.getD 0) h h') hR∧G P l hR r k (({st with hp:=merge T (dst.getD 0) h h'}:St).put dst (x.CA (back T (dst.getD 0))))):Gh P l hR r k kd dst st h T f ds hs S:= .inl (hc.mono hk)
theorem Av1 {P:Program} {l:List Oper} {hR:Hp} {r:List (Nat×Nat)} {k:Kt} {kd:Nat} {o:Oper} {st:St} {fo:Operand} {args:List Operand} {g:FuncId} {cap ds:List D} {R:Hp→D→Prop}
   (ho:Bz o.op=some (fo,args)) (hg:ev st fo= .fn g cap) (hc:Aj P g ds [] R) (hb:HI st.hp (args.map (ev st)++cap) ds)
   (hk:∀h x,R h x→h=[]∧x.flat=true∧Hd kd st.hp hR∧G P l hR r k (st.put o.dst x)):Bq P l hR r k kd o st:=
 ⟨fo,args,g,cap,ds,ho,hg,hb,hc.mono fun h x hx=>by
   obtain ⟨h1,h2,h3,h4⟩:=hk h x hx;exact ⟨h1,by rw[BH];exact h3,by rw[QT h2];exact h4⟩⟩
theorem Ark {P:Program} {l:List Oper} {hR:Hp} {r:List (Nat×Nat)} {k:Kt} {kd:Nat} {o:Oper} {st:St} {fo:Operand} {args:List Operand} {g:FuncId} {cap ds:List D} {R:Hp→D→Prop} {dst:Option Nat} {h:Hp} {T:List Nat} {f':FuncId} {XD:List D} {hs:Hp} {st':St}
   (ho:Bz o.op=some (fo,args)) (hg:ev st fo= .fn g cap) (hc:Aj P g ds [] R) (hb:HI st.hp (args.map (ev st)++cap) ds)
   (hk:∀h x,R h x→h=[]∧x.flat=true∧Hd kd st.hp hR∧G P l hR r k (st.put o.dst x)):Gh P l hR r k kd dst st' h T f' XD hs (Bq P l hR r k kd o st):= .inr (Av1 ho hg hc hb hk)
theorem Ara {P:Program} {ops rest:List Oper} {k:Kt} {st:St} {o:Oper} {fo:Operand} {args:List Operand} {g:FuncId} {cap ds:List D} {R:Hp→D→Prop}
   (ho:Bz o.op=some (fo,args)) (hg:ev st fo= .fn g cap) (hc:Aj P g ds [] R) (hb:HI st.hp (args.map (ev st)++cap) ds)
   (hk:∀h x,R h x→h=[]∧x.flat=true∧O P true ops rest k (st.put o.dst x)):Sm P true ops rest k o st:=
 ⟨rfl,fun c a w F M Q hr=>MX hr ⟨fo,args,g,cap,ds,ho,hg,hb,hc.mono fun h x hx=>by
   obtain ⟨h1,h2,h3⟩:=hk h x hx;exact ⟨h1,by rw[QT h2];exact h3⟩⟩ Q⟩
theorem Ao2 {P:Program} {ops rest:List Oper} {k:Kt} {dst:Option Nat} {st st':St} {h:Hp} {T:List Nat} {f':FuncId} {XD:List D} {hs:Hp} {o:Oper} {fo:Operand} {args:List Operand} {g:FuncId} {cap ds:List D} {R:Hp→D→Prop}
   (ho:Bz o.op=some (fo,args)) (hg:ev st fo= .fn g cap) (hc:Aj P g ds [] R) (hb:HI st.hp (args.map (ev st)++cap) ds)
   (hk:∀h x,R h x→h=[]∧O P true ops rest k (st.put o.dst x.Fo)):Cc P true ops rest k dst st' h T f' XD hs (Sm P true ops rest k o st):=
 .inr ⟨rfl,fun c a w F M Q hr=>MX hr ⟨fo,args,g,cap,ds,ho,hg,hb,hc.mono hk⟩ Q⟩
theorem Pr {P:Program} {ops rest:List Oper} {k:Kt} {dst:Option Nat} {st st':St} {h:Hp} {T:List Nat} {f':FuncId} {XD:List D} {hs:Hp} {o:Oper} {fo:Operand} {args:List Operand} {g:FuncId} {cap ds:List D} {R:Hp→D→Prop}
   (ho:Bz o.op=some (fo,args)) (hg:ev st fo= .fn g cap) (hc:Aj P g ds [] R) (hb:HI st.hp (args.map (ev st)++cap) ds)
   (hk:∀h x,R h x→h=[]∧x.flat=true∧O P true ops rest k (st.put o.dst x)):Cc P true ops rest k dst st' h T f' XD hs (Sm P true ops rest k o st):= .inr (Ara ho hg hc hb hk)
attribute [go_sem] Rt Av0 Auv base AO.CA fresh merge back Mp pick List.filter_cons List.filter_nil List.mem_cons List.not_mem_nil or_false false_or or_true true_or List.nodup_cons List.contains_cons List.contains_nil Bool.or_false Bool.or_true Bool.false_or Bool.true_or
attribute [go_sem] Arf Akx Aux Arr Anu Aro Auw Anz Al1 Anw Arn Arm Al0 Anx Arl Anv Akz D.Fo Gm Pd.flat Arq Ari Arp GG DE Av
end Go.Am
end
