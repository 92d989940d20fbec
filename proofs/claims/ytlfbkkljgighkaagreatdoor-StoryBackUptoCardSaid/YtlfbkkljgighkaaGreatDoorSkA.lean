/- Texts of this proof, what it rests on, merged: part A. -/
import Derived.WalkKit
import Derived.WalkLawsBesides
import Derived.Laws.StructEq
import Derived.Laws.BytesString
import Derived.Laws.Cells
import Derived.Lib.SliceRun
import Derived.MapKept
section
set_option linter.unusedVariables false
set_option linter.unusedSimpArgs false
namespace Go.Am
open Go
theorem Bn:type_of% @List.getElem?_eq_some_iff:=@List.getElem?_eq_some_iff
theorem Bo:type_of% @Option.some.injEq:=@Option.some.injEq
theorem Bp:type_of% @List.getElem?_eq_getElem:=@List.getElem?_eq_getElem
theorem Br:type_of% @List.length_cons:=@List.length_cons
theorem Bs:type_of% @Array.getD_eq_getD_getElem?:=@Array.getD_eq_getD_getElem?
theorem Bt:type_of% @List.mem_of_getElem?:=@List.mem_of_getElem?
theorem Bu:type_of% @List.getD_eq_getElem?_getD:=@List.getD_eq_getElem?_getD
theorem Bv:type_of% @List.length_set:=@List.length_set
theorem Bw:type_of% @List.length_append:=@List.length_append
theorem Bx:type_of% @List.length_nil:=@List.length_nil
theorem Bz:type_of% @Bool.and_eq_true:=@Bool.and_eq_true
theorem BA:type_of% @List.take_of_length_le:=@List.take_of_length_le
theorem BB:type_of% @List.all_eq_true:=@List.all_eq_true
theorem BC:type_of% @List.mem_append:=@List.mem_append
theorem BD:type_of% @List.getElem?_map:=@List.getElem?_map
theorem BE:type_of% @List.getElem?_cons_zero:=@List.getElem?_cons_zero
theorem BF:type_of% @List.mem_singleton:=@List.mem_singleton
theorem BG:type_of% @List.getElem?_set:=@List.getElem?_set
theorem BH:type_of% @List.take_length:=@List.take_length
theorem BI:type_of% @decide_eq_true_eq:=@decide_eq_true_eq
theorem BJ:type_of% @List.map_set:=@List.map_set
theorem BK:type_of% @List.length_take:=@List.length_take
theorem BL:type_of% @Nat.lt_succ_iff_lt_or_eq:=@Nat.lt_succ_iff_lt_or_eq
theorem BM:type_of% @List.getElem?_take:=@List.getElem?_take
theorem BN:type_of% @List.not_mem_nil:=@List.not_mem_nil
theorem BO:type_of% @List.getD_cons_zero:=@List.getD_cons_zero
theorem BP:type_of% @Option.getD_some:=@Option.getD_some
theorem BQ:type_of% @Nat.zero_le:=@Nat.zero_le
theorem BR:type_of% @List.set_cons_succ:=@List.set_cons_succ
theorem BS:type_of% @List.mem_map:=@List.mem_map
theorem BT:type_of% @List.set_cons_zero:=@List.set_cons_zero
theorem BU:type_of% @List.mem_cons:=@List.mem_cons
theorem BV:type_of% @Bool.false_ne_true:=@Bool.false_ne_true
theorem BW:type_of% @Array.getElem?_eq_getElem:=@Array.getElem?_eq_getElem
theorem BX:type_of% @List.getElem?_drop:=@List.getElem?_drop
theorem BY:type_of% @Bool.false_eq_true:=@Bool.false_eq_true
theorem BZ:type_of% @List.getElem?_append:=@List.getElem?_append
theorem B0:type_of% @List.eq_nil_of_length_eq_zero:=@List.eq_nil_of_length_eq_zero
theorem B1:type_of% @List.length_replicate:=@List.length_replicate
theorem B2:type_of% @Nat.zero_add:=@Nat.zero_add
theorem B3:type_of% @congrArg:=@congrArg
theorem B4:type_of% @List.map_cons:=@List.map_cons
theorem B5:type_of% @if_true:=@if_true
theorem B6:type_of% @Nat.not_lt_zero:=@Nat.not_lt_zero
theorem B7:type_of% @Nat.add_mul:=@Nat.add_mul
theorem B8:type_of% @List.mem_iff_getElem?:=@List.mem_iff_getElem?
theorem B9:type_of% @Nat.add_zero:=@Nat.add_zero
theorem Ca:type_of% @List.length_pos_iff:=@List.length_pos_iff
theorem Cb:type_of% @Nat.add_sub_cancel_left:=@Nat.add_sub_cancel_left
theorem Ce:type_of% @List.cons_append:=@List.cons_append
theorem Cf:type_of% @List.any_eq_true:=@List.any_eq_true
theorem Cg:type_of% @Array.getElem?_eq_some_iff:=@Array.getElem?_eq_some_iff
theorem Ch:type_of% @List.mem_iff_getElem:=@List.mem_iff_getElem
theorem Ci:type_of% @Option.map_some:=@Option.map_some
theorem Cj:type_of% @Option.isSome_iff_exists:=@Option.isSome_iff_exists
theorem Cm:type_of% @List.getElem_mem:=@List.getElem_mem
theorem Co:type_of% @List.filter_cons:=@List.filter_cons
theorem Cp:type_of% @List.set_set:=@List.set_set
theorem Cr:type_of% @List.append_assoc:=@List.append_assoc
theorem Cs:type_of% @Prod.mk.injEq:=@Prod.mk.injEq
theorem Ct:type_of% @List.length_map:=@List.length_map
theorem Cu:type_of% @Option.map_eq_some_iff:=@Option.map_eq_some_iff
theorem Cv:type_of% @List.drop_of_length_le:=@List.drop_of_length_le
theorem Cw:type_of% @List.getElem?_append_left:=@List.getElem?_append_left
theorem Cx:type_of% @Array.getElem?_toList:=@Array.getElem?_toList
theorem Cy:type_of% @if_false:=@if_false
theorem Cz:type_of% @List.nil_append:=@List.nil_append
theorem CA:type_of% @Nat.mul_le_mul_right:=@Nat.mul_le_mul_right
theorem CB:type_of% @List.mem_of_mem_take:=@List.mem_of_mem_take
theorem CC:type_of% @List.mem_append_left:=@List.mem_append_left
theorem CD:type_of% @List.getElem?_replicate:=@List.getElem?_replicate
theorem CE:type_of% @List.map_take:=@List.map_take
theorem CF:type_of% @Nat.le_trans:=@Nat.le_trans
theorem CG:type_of% @List.take_succ_eq_append_getElem:=@List.take_succ_eq_append_getElem
theorem CH:type_of% @List.getElem?_set_self:=@List.getElem?_set_self
theorem CI:type_of% @List.getElem?_append_right:=@List.getElem?_append_right
theorem CJ:type_of% @Nat.min_eq_left:=@Nat.min_eq_left
theorem CK:type_of% @Ne.symm:=@Ne.symm
theorem CL:type_of% @List.length_singleton:=@List.length_singleton
theorem CM:type_of% @List.getElem?_toArray:=@List.getElem?_toArray
theorem Bd{α β:Type _}(a:α)(f:α->Option β):Option.bind (some a) f=f a:=rfl
theorem Be(n:Nat):(n:Int).toNat=n:=Int.toNat_natCast n
theorem Bf{α:Type _}{a b:α}(h:some a=some b):a=b:=Option.some.inj h
theorem Bg{p:Prop}[inst:Decidable p](h:decide p=true):p:=of_decide_eq_true h
theorem Bh{p:Prop}[inst:Decidable p](h:decide p=false):¬p:=of_decide_eq_false h
theorem Bi{p:Prop}[inst:Decidable p](h:p):decide p=true:=decide_eq_true h
theorem Bj{p:Prop}[inst:Decidable p](h:¬p):decide p=false:=decide_eq_false h
theorem Bk(n:Nat):n<=n:=Nat.le_refl n
theorem Bl{α:Type _}(a b:α):cond false a b=b:=rfl
theorem Bm{α:Type _}(a b:α):cond true a b=a:=rfl
abbrev Ad:=List UInt8
abbrev AG:=TypeId
inductive Pd where
 | int (k:IntKind) (n:Int)
 | bool (b:Bool)
 | str (l:Ad)
 | sl (es:List (List Pd))
 | ifi (t:AG) (k:IntKind) (n:Int)
 | ifs (t:AG) (l:Ad)
abbrev Ag:=List (List Pd)
abbrev Ax:=List Pd
abbrev AH:=FuncId
inductive D where
 | p (x:Pd)
 | agg (cs:List D)
 | Em (cs:List D)
 | cl (es:Ag)
 | cz (es:Ag)
 | ref (id off len N:Nat)
 | ptr (id off:Nat)
 | pe (cs:Ax)
 | ea (id i c N:Nat)
 | fn (f:AH) (cap:List D)
 | np
 | mv (id:Nat)
 | E3 (id n:Nat)
 | R9 (id i n:Nat)
 | nr (id i len k:Nat)
 | WE
 | bad
def Pd.val:Pd->Value
 | .int k n=> .int k n
 | .bool b=> .bool b
 | .str l=> .string ⟨l.toArray⟩
 | .sl _=>undef
 | .ifi t k n=> .iface t (.int k n)
 | .ifs t l=> .iface t (.string ⟨l.toArray⟩)
def Pd.flat:Pd->Bool
 | .sl _=>false
 | _=>true
abbrev Al:=List (Nat×Nat)
structure Mb where
 Fm:Nat
 cap:Nat
 xs:Al:=[]
inductive Sg where
 | box
 | arr (sz n:Nat)
 | Fc (sz n k:Nat)
abbrev AI:=World
structure Bpd where
 sg:Sg
 holds:(Nat->Prop)->World->Mb->Prop
 JM:Mb->Nat->Prop
 keep:∀{F F':Nat->Prop} {w w':AI} {m:Mb},holds F w m->(∀b,F b->w'.heap[b]?=w.heap[b]?)->(∀b,F b->F' b)->(∀b,JM m b->w'.heap[b]?=w.heap[b]?/\¬F' b)->holds F' w' m
 PH:∀{F:Nat->Prop} {w:AI} {m:Mb} {b:Nat},holds F w m->JM m b->¬F b
 lt:∀{F:Nat->Prop} {w:AI} {m:Mb} {b:Nat},holds F w m->JM m b->b<w.heap.size
 Bol:∀{F:Nat->Prop} {w w':AI} {m:Mb},holds F w m->(∀b row t fr,F b->w.heap[b]?=some (.cells row t fr)->∃fr',w'.heap[b]?=some (.cells row t fr'))->(∀b,¬F b->w'.heap[b]?=w.heap[b]?)->holds F w' m
abbrev Ai:=List D
abbrev Ay:=List (List (List Pd))
abbrev AE:=List (Pd×Pd)
inductive AO where
 | box (cs:Ai) (t:TypeId:=0)
 | arr (t:AG) (sz:Nat) (es:Ag)
 | Oh (sz:Nat) (es:Ag)
 | iter (l:Ad) (pos:Nat)
 | Ev (g:Nat) (cs:Ax)
 | Ij (s:Bpd)
 | mp (l:AE)
 | Fc (t e:AG) (sz k:Nat) (rows:Ay) (hole:Option Nat)
 | Yo (t:AG) (sz:Nat) (es:Ag) (i c:Nat) (d:D)
def base:Nat:=1000000
abbrev Hp:=List (Nat×AO)
def get{α:Type}:List (Nat×α)->Nat->Option α
 | [],_=>none
 | (a,x)::r,k=>if a=k then some x else get r k
def AO.sg:AO->Sg
 | .box _ _=> .box
 | .arr _ a b=> .arr a b.length
 | .Oh a b=> .arr a b.length
 | .iter _ _=> .box
 | .Ev _ _=> .box
 | .Ij s=>s.sg
 | .mp _=> .box
 | .Fc _ _ a k rows _=> .Fc a rows.length k
 | .Yo _ a b _ _ _=> .arr a b.length
def sg(h:Hp)(id:Nat):Option Sg:=(get h id).map AO.sg
inductive PR (F:Nat->Prop) (w:AI):Pd->Value->Prop
 | int (k:IntKind) (n:Int):PR F w (.int k n) (.int k n)
 | bool (b:Bool):PR F w (.bool b) (.bool b)
 | str (l:Ad):PR F w (.str l) (.string ⟨l.toArray⟩)
 | ifi (t:AG) (k:IntKind) (n:Int):PR F w (.ifi t k n) (.iface t (.int k n))
 | ifs (t:AG) (l:Ad):PR F w (.ifs t l) (.iface t (.string ⟨l.toArray⟩))
 | sl0 (a:Option Addr) (cap:Nat):PR F w (.sl []) (.slice a 0 cap)
 | sl (es:Ag) (b off cap sz:Nat) (row:Array Value) (t:AG) (fr:Nat×Nat)
     (hF:F b) (hh:w.heap[b]?=some (.cells row t fr)) (hc:es.length<=cap)
     (hs:∀(i:Nat) e,es[i]?=some e->e.length=sz)
     (hi:∀(i:Nat) e (j:Nat) c,es[i]?=some e->e[j]?=some c->off+i*sz+j<row.size)
     (hp:∀(i:Nat) e (j:Nat) c,es[i]?=some e->e[j]?=some c->PR F w c (row.getD (off+i*sz+j) undef)):
     PR F w (.sl es) (.slice (some ⟨b,off,none⟩) es.length cap)
theorem PR.flat{F:Nat->Prop}{w}{x}(h:x.flat=true):PR F w x x.val:=by
 cases x with
 | int k n=>exact .int k n
 | bool b=>exact .bool b
 | str l=>exact .str l
 | ifi t k n=>exact .ifi t k n
 | ifs t l=>exact .ifs t l
 | sl _=>cases h
theorem PR.keep{F F':Nat->Prop}{w w'}{x}{v}(h:PR F w x v)(u:∀b,F b->w'.heap[b]?=w.heap[b]?)(o:∀b,F b->F' b):
   PR F' w' x v:=by
 induction h with
 | int k n=>exact .int k n
 | bool b=>exact .bool b
 | str l=>exact .str l
 | ifi t k n=>exact .ifi t k n
 | ifs t l=>exact .ifs t l
 | sl0 a cap=>exact .sl0 a cap
 | sl f b off cap z row t g hb q p s r B y=>
   exact .sl f b off cap z row t g (o b hb) (by rw[u b hb];exact q) p s r (λ i e j c m h2=>y i e j c m h2)
theorem PR.Mn{F:Nat->Prop}{w}{x}{v}(h:PR F w x v):v.oneCell'=true:=by
 cases h<;>rfl
abbrev AJ:=Value
def Xd(m:Mb)(sz n off len:Nat)(v:AJ):Prop:=
 ∃a cap,v= .slice a len cap/\off+len<=n/\len<=cap/\off+cap=m.cap/\(cap=0∨a=some ⟨m.Fm,off*sz,none⟩)
inductive DR (F:Nat->Prop) (w:AI) (M:Nat->Mb) (s:Nat->Option Sg):D->Value->Prop
 | p {x:Pd} {v:AJ} (h:PR F w x v):DR F w M s (.p x) v
 | agg (cs:Ai) (vs:Array Value) (hl:vs.size=cs.length) (h:∀(i:Nat) c,cs[i]?=some c->DR F w M s c (vs.getD i undef)):DR F w M s (.agg cs) (.agg vs)
 | Em (cs:Ai) (vs:Array Value) (hl:vs.size=cs.length) (h:∀(i:Nat) c,cs[i]?=some c->DR F w M s c (vs.getD i undef)):DR F w M s (.Em cs) (.tuple vs)
 | cl (es:Ag) (a:Option Addr) (h:PR F w (.sl es) (.slice a es.length es.length)) (hn:es=[]->a=none):DR F w M s (.cl es) (.slice a es.length es.length)
 | cz (es:Ag) (a:Option Addr) (h:PR F w (.sl es) (.slice a es.length es.length)):DR F w M s (.cz es) (.slice a es.length es.length)
 | ref (id off len N sz n:Nat) (v:AJ) (hs:s id=some (.arr sz n)) (hN:N<=n) (hv:∃a l c,v= .slice a l c) (h:N=n->Xd (M id) sz n off len v):DR F w M s (.ref id off len N) v
 | ptr (id off:Nat) (hs:s id=some .box):DR F w M s (.ptr id off) (.pointer (some ⟨(M id).Fm,off,none⟩))
 | pe (cs:Ax) (b off:Nat) (row:Array Value) (t:AG) (fr:Nat×Nat) (hF:F b) (hh:w.heap[b]?=some (.cells row t fr))
     (hi:∀(j:Nat) c,cs[j]?=some c->off+j<row.size) (hp:∀(j:Nat) c,cs[j]?=some c->PR F w c (row.getD (off+j) undef)):
     DR F w M s (.pe cs) (.pointer (some ⟨b,off,none⟩))
 | ea (id i c N sz n:Nat) (v:AJ) (hs:s id=some (.arr sz n)) (hN:N<=n) (hv:∃a,v= .pointer a) (h:N=n->v= .pointer (some ⟨(M id).Fm,i*sz+c,none⟩)/\i<n):
     DR F w M s (.ea id i c N) v
 | fn (f:AH) (cap:Ai) (vs:Array Value) (hl:vs.size=cap.length) (h:∀(i:Nat) c,cap[i]?=some c->DR F w M s c (vs.getD i undef)):
     DR F w M s (.fn f cap) (.func (.func f) #[] vs)
 | np:DR F w M s .np (.pointer none)
 | mv (id:Nat) (hs:s id=some .box):DR F w M s (.mv id) (.map (some (M id).Fm))
 | E3 (id n sz m k:Nat) (v:AJ) (hs:s id=some (.Fc sz m k)) (hN:n<=m) (hv:∃a c,v= .slice a n c/\(n=0∨∃b,a=some ⟨b,0,none⟩)) (h:n=m->Xd (M id) 1 m 0 n v):DR F w M s (.E3 id n) v
 | R9 (id i n sz m k:Nat) (b:Nat) (hs:s id=some (.Fc sz m k)) (hN:n<=m) (hi:i<n) (h:n=m->b=(M id).Fm/\(M id).cap≠0):DR F w M s (.R9 id i n) (.pointer (some ⟨b,i,none⟩))
 | nr (id i len q sz m k:Nat) (v:AJ) (hs:s id=some (.Fc sz m k)) (hN:q<=k) (hv:∃a c,v= .slice a len c) (h:q=k->∃bc,(M id).xs[i]?=some bc/\len<=bc.2/\∃a,v= .slice a len bc.2/\(bc.2=0∨a=some ⟨bc.1,0,none⟩)):DR F w M s (.nr id i len q) v
 | WE (v:AJ) (h:v.oneCell'=true):DR F w M s .WE v
 | bad (v:AJ):DR F w M s .bad v
def Ea(M M':Nat->Mb)(s f:Nat->Option Sg):Prop:=
 (∀id,s id=some .box->f id=some .box/\(M' id).Fm=(M id).Fm)/\
 (∀id b n,s id=some (.arr b n)->∃a,f id=some (.arr b a)/\n<=a/\(a=n->M' id=M id))/\
 (∀id b n k,s id=some (.Fc b n k)->∃a e,f id=some (.Fc b a e)/\n<=a/\k<=e/\(a=n->(M' id).Fm=(M id).Fm/\(M' id).cap=(M id).cap)/\(e=k->(M' id).xs=(M id).xs))
theorem Ea.refl(M:Nat->Mb)(s:Nat->Option Sg):Ea M M s s:=
 ⟨λ _ h=>⟨h,rfl⟩,λ _ _ n h=>⟨n,h,Bk _,λ _=>rfl⟩,λ _ _ n k h=>⟨n,k,h,Bk _,Bk _,λ _=>⟨rfl,rfl⟩,λ _=>rfl⟩⟩
theorem AQ{p:Prop}(h:p:=by omega):p:=h
theorem Ea.trans{M M' M''}{s w l}(h:Ea M M' s w)(h':Ea M' M'' w l):Ea M M'' s l:=by
 refine ⟨λ id i=>?_,λ id m n i=>?_,λ id m n k i=>?_⟩
 . obtain ⟨f,h2⟩:=h.1 id i;obtain ⟨b,g⟩:=h'.1 id f;exact ⟨b,g.trans h2⟩
 . obtain ⟨j,f,h2,b⟩:=h.2.1 id m n i;obtain ⟨u,g,q,o⟩:=h'.2.1 id m j f;refine ⟨u,g,CF h2 q,λ e=>?_⟩;have a:j=n:=AQ;rw[o AQ,b a]
 . obtain ⟨j,v,f,h2,LC,b,p⟩:=h.2.2 id m n k i;obtain ⟨u,x,g,q,r,o,t⟩:=h'.2.2 id m j v f;refine ⟨u,x,g,CF h2 q,CF LC r,λ e=>?_,λ e=>?_⟩
   . have a:j=n:=AQ;exact ⟨(o AQ).1.trans (b a).1,(o AQ).2.trans (b a).2⟩
   . have a:v=k:=AQ;rw[t AQ,p a]
theorem DR.keep{F F':Nat->Prop}{w w'}{M M'}{s Z}{d}{v}(h:DR F w M s d v)
   (H:∀b,F b->w'.heap[b]?=w.heap[b]?) (B:∀b,F b->F' b) (y:Ea M M' s Z):DR F' w' M' Z d v:=by
 induction h with
 | p h=>exact .p (h.keep H B)
 | agg cs S E _ I=>exact .agg cs S E I
 | Em cs S E _ I=>exact .Em cs S E I
 | cl U a h hn=>exact .cl U a (h.keep H B) hn
 | cz U a h=>exact .cz U a (h.keep H B)
 | ref id off len N l n v g x z h2=>
   obtain ⟨R,o,r,u⟩:=y.2.1 id l n g;refine .ref id off len N l R v o (CF x r) z λ e=>?_;have T:R=n:=AQ;subst T;rw[u rfl];exact h2 e
 | ptr id off g=>
   obtain ⟨h2,o⟩:=y.1 id g;rw[<-o];exact .ptr id off h2
 | pe cs b off row t fr hb hh Y hp=>exact .pe cs b off row t fr (B b hb) (by rw[H b hb];exact hh) Y (λ j c g=>(hp j c g).keep H B)
 | ea id i c N l n v g x z h2=>
   obtain ⟨R,o,r,u⟩:=y.2.1 id l n g;refine .ea id i c N l R v o (CF x r) z λ e=>?_;have T:R=n:=AQ;subst T;rw[u rfl];exact h2 e
 | fn f cap S E _ I=>exact .fn f cap S E I
 | np=>exact .np
 | mv id g=>
   obtain ⟨h2,o⟩:=y.1 id g;rw[<-o];exact .mv id h2
 | E3 id n l m k v g x z h2=>
   obtain ⟨Q,K,o,r,_,u,_⟩:=y.2.2 id l m k g;refine .E3 id n l Q K v o (CF x r) z λ e=>?_;obtain ⟨V,W⟩:=u AQ;obtain ⟨a,cap,g1,g2,g3,g4,g5⟩:=h2 AQ;exact ⟨a,cap,g1,AQ,g3,by rw[W];exact g4,by rw[V];exact g5⟩
 | R9 id i n l m k b g x Y h2=>
   obtain ⟨Q,K,o,r,_,u,_⟩:=y.2.2 id l m k g;refine .R9 id i n l Q K b o (CF x r) Y λ e=>?_;obtain ⟨V,W⟩:=u AQ;rw[V,W];exact h2 AQ
 | nr id i len q l m k v g x z h2=>
   obtain ⟨Q,K,o,_,r,_,u⟩:=y.2.2 id l m k g;refine .nr id i len q l Q K v o (CF x r) z λ e=>?_;rw[u AQ];exact h2 AQ
 | WE v h=>exact .WE v h
 | bad v=>exact .bad v
def W8(ty t:AG):TypeId:=if ty=0 then t else ty
def D.Afk:D->Bool
 | .np=>true
 | _=>false
def Exa(ty:AG)(cs:Ai)(row:Array Value):Prop:=ty≠0->cs.any D.Afk=true->∀(j:Nat),cs[j]?=some (.cl [])->row.getD j undef= .slice none 0 0
theorem Exa.zero(cs)(row):Exa 0 cs row:=λ h=>(h rfl).elim
def Hm(a:Nat×Nat)(n:Nat):Prop:=∀i,i<n->¬(a.1<=i/\i<a.2)
theorem Hm.zero(n):Hm (0,0) n:=λ _ _ h=>B6 _ h.2
def Wo(w:AI)(b:Nat)(t:AG)(row:Array Value):Prop:=∃a,w.heap[b]?=some (.cells row t a)/\Hm a row.size
theorem Wo.of0{w}{b}{t}{row}(h:w.heap[b]?=some (.cells row t (0,0))):Wo w b t row:=⟨_,h,Hm.zero _⟩
theorem Wo.lt{w}{b}{t}{row}(h:Wo w b t row):b<w.heap.size:=(Cg.1 h.choose_spec.1).1
theorem Wo.keep{w w'}{b}{t}{row}(h:Wo w b t row)(e:w'.heap[b]?=w.heap[b]?):Wo w' b t row:=by
 obtain ⟨a,f,h2⟩:=h;exact ⟨a,by rw[e];exact f,h2⟩
theorem Wo.set{w}{b}{t}{row cs}(h:Wo w b t row)(e:cs.size=row.size):Wo (w.setRow b cs) b t cs:=by
 obtain ⟨a,f,h2⟩:=h;exact ⟨a,setRow_heap w b row cs t a f,by rw[e];exact h2⟩
abbrev At:=List Value
theorem AT{p:Prop}(h:p:=by simp):p:=h
theorem Iv(P)(g o)(t):∀(vs:At) (i:Nat) (cur:Array Value) (w:AI),Wo w g t cur->o+i+vs.length<=cur.size->(∀v∈vs,v.oneCell'=true)->
   (storeCells ⟨g,o,none⟩ vs i).run P w= .ok () (w.setRow g (cur.toList.take (o+i)++vs++cur.toList.drop (o+i+vs.length)).toArray)
 | [],i,cur,w,a,_,_=>by
   obtain ⟨f,a,_⟩:=a;simp only[storeCells,List.append_nil,Bx,B9,List.take_append_drop,Array.toArray_toList];rw[setRow_self w g cur t f a];rfl
 | v::rest,i,cur,w,b,j,k=>by
   have l:o+i<cur.size:=by simp at j;omega
   have n:=Iv P g o t rest (i+1) (cur.setIfInBounds (o+i) v) (w.setRow g (cur.setIfInBounds (o+i) v)) (b.set AT) (by simp at j ⊢;omega) (λ x hx=>k x (by simp[hx]));obtain ⟨f,a,m⟩:=b;have Bzj:(⟨g,o,none⟩:Addr).add i=⟨g,o+i,none⟩:=by unfold Addr.add;split<;>simp_all
   have Ad3:w.cell? ⟨g,o+i,none⟩=some cur[o+i]:=by simp[World.cell?,a,l]
   have Bz8:w.frozen? ⟨g,o+i,none⟩=false:=by
     have:=m (o+i) l;simp[World.frozen?,a];omega
   have Ly:(store ((⟨g,o,none⟩:Addr).add i) v).run P w= .ok () (w.setRow g (cur.setIfInBounds (o+i) v)):=by
     rw[Bzj,run_store P w _ v _ (k v AT),Ad3];simp[Bz8,setCell_eq_setRow w g (o+i) cur t f v a]
   simp only[storeCells,Sem.run_bind,Ly,Result.andThen_ok,n,setRow_setRow]
   congr 3
   have e:=list_seg_step cur.toList (o+i) v rest (by simp at j ⊢;omega)
   simpa [Array.toList_setIfInBounds,Nat.add_assoc] using e
def Alq(F:Nat->Prop)(w:AI)(m:Mb)(t:AG)(sz:Nat)(es:Ag):Prop:=
 0<sz/\es.length<=m.cap/\m.cap<=maxLen/\(∀(i:Nat) e,es[i]?=some e->e.length=sz)/\
     (m.cap≠0->¬F m.Fm/\∃row,Wo w m.Fm t row/\row.size=m.cap*sz/\
       ∀(i:Nat) e (j:Nat) c,es[i]?=some e->e[j]?=some c->PR F w c (row.getD (i*sz+j) undef))
structure MV(F:Nat->Prop)(w:AI)(m:Mb)(t e:AG)(sz:Nat)(rows:Ay)(hole:Option Nat):Prop where
 pos:0<sz
 xl:m.xs.length=rows.length
 le:rows.length<=m.cap
 max:m.cap<=maxLen
 outer:m.cap≠0->¬F m.Fm/\∃row,w.heap[m.Fm]?=some (.cells row t (0,0))/\row.size=m.cap/\
   ∀(i:Nat) r bc,rows[i]?=some r->m.xs[i]?=some bc->hole≠some i->∃a,row.getD i undef= .slice a r.length bc.2/\(bc.2=0∨a=some ⟨bc.1,0,none⟩)
 rows:∀(i:Nat) r bc,rows[i]?=some r->m.xs[i]?=some bc->hole≠some i->Alq F w ⟨bc.1,bc.2,[]⟩ e sz r
 Awr:∀(i:Nat) bc,hole=some i->m.xs[i]?=some bc->bc.2=0
 dis:∀(i j:Nat) bi bj,m.xs[i]?=some bi->m.xs[j]?=some bj->i≠j->bi.2≠0->bj.2≠0->bi.1≠bj.1
 out:∀(i:Nat) bi,m.xs[i]?=some bi->bi.2≠0->m.cap≠0->bi.1≠m.Fm
def GK(m:Mb)(b:Nat):Prop:=(m.cap≠0/\b=m.Fm)∨∃(i:Nat) (a:Nat×Nat),m.xs[i]?=some a/\a.2≠0/\b=a.1
theorem Alq.keep{F F':Nat->Prop}{w w'}{m}{t}{sz}{es}(h:Alq F w m t sz es)
   (u:∀b,F b->w'.heap[b]?=w.heap[b]?) (q:∀b,F b->F' b) (DD:m.cap≠0->w'.heap[m.Fm]?=w.heap[m.Fm]?/\¬F' m.Fm):Alq F' w' m t sz es:=by
 obtain ⟨f,h2,LC,g,k⟩:=h;refine ⟨f,h2,LC,g,λ a=>?_⟩;obtain ⟨v,row,l,n,o⟩:=k a;obtain ⟨p,XB⟩:=DD a;exact ⟨XB,row,l.keep p,n,λ i e j c r s=>(o i e j c r s).keep u q⟩
theorem MV.row{F:Nat->Prop}{w}{m}{t e}{sz}{rows}{hole}(h:MV F w m t e sz rows hole){i}{a}(hx:m.xs[i]?=some a)(f:a.2≠0):
   ∃r,rows[i]?=some r/\hole≠some i/\Alq F w ⟨a.1,a.2,[]⟩ e sz r:=by
 have Dv:i<rows.length:=by rw[<-h.xl];exact (Bn.1 hx).1
 have b:hole≠some i:=λ e=>f (h.Awr i a e hx);exact ⟨rows[i],by simp[Dv],b,h.rows i _ a (by simp[Dv]) hx b⟩
theorem MV.keep{F F':Nat->Prop}{w w'}{m}{t e}{sz}{rows}{hole}(h:MV F w m t e sz rows hole)
   (o:∀b,F b->w'.heap[b]?=w.heap[b]?) (n:∀b,F b->F' b) (DD:∀b,GK m b->w'.heap[b]?=w.heap[b]?/\¬F' b):MV F' w' m t e sz rows hole:=by
 refine ⟨h.pos,h.xl,h.le,h.max,λ a=>?_,λ i r g j h2 f=>(h.rows i r g j h2 f).keep o n λ a=>DD _ (.inr ⟨i,g,h2,a,rfl⟩),h.Awr,h.dis,h.out⟩;obtain ⟨j,row,h2,f⟩:=h.outer a;obtain ⟨k,l⟩:=DD _ (.inl ⟨a,rfl⟩);exact ⟨l,row,by rw[k];exact h2,f⟩
theorem MV.PH{F:Nat->Prop}{w}{m}{t e}{sz}{rows}{hole}(h:MV F w m t e sz rows hole){b}(hb:GK m b):¬F b:=by
 rcases hb with ⟨a,rfl⟩ | ⟨i,g,hx,a,rfl⟩
 . exact (h.outer a).1
 . obtain ⟨r,_,_,f⟩:=h.row hx a;exact (f.2.2.2.2 a).1
theorem MV.lt{F:Nat->Prop}{w}{m}{t e}{sz}{rows}{hole}(h:MV F w m t e sz rows hole){b}(hb:GK m b):b<w.heap.size:=by
 rcases hb with ⟨a,rfl⟩ | ⟨i,j,hx,a,rfl⟩
 . obtain ⟨_,row,h2,_⟩:=h.outer a;exact (Cg.1 h2).1
 . obtain ⟨r,_,_,f⟩:=h.row hx a;obtain ⟨_,g,h2,_⟩:=f.2.2.2.2 a;exact h2.lt
structure RM(F:Nat->Prop)(w:AI)(M:Nat->Mb)(s:Nat->Option Sg)(m:Mb)(t:AG)(sz:Nat)(es:Ag)(i0 c0:Nat)(d:D):Prop where
 pos:0<sz
 le:es.length<=m.cap
 max:m.cap<=maxLen
 wid:∀(i:Nat) e,es[i]?=some e->e.length=sz
 at_:i0<es.length/\c0<sz
 nF:¬F m.Fm
 row:∃row,Wo w m.Fm t row/\row.size=m.cap*sz/\(∀(i:Nat) e (j:Nat) c,es[i]?=some e->e[j]?=some c->¬(i=i0/\j=c0)->PR F w c (row.getD (i*sz+j) undef))/\
   DR F w M s d (row.getD (i0*sz+c0) undef)/\(row.getD (i0*sz+c0) undef).oneCell'=true
theorem RM.keep{F F':Nat->Prop}{w w'}{M M'}{s l}{m}{t}{sz}{es}{k a}{d}(h:RM F w M s m t sz es k a d)
   (g:∀b,F b->w'.heap[b]?=w.heap[b]?) (f:∀b,F b->F' b) (x:Ea M M' s l) (DD:w'.heap[m.Fm]?=w.heap[m.Fm]?/\¬F' m.Fm):RM F' w' M' l m t sz es k a d:=by
 obtain ⟨row,n,h2,o,p,q⟩:=h.row;exact ⟨h.pos,h.le,h.max,h.wid,h.at_,DD.2,row,n.keep DD.1,h2,λ i e j c r u v=>(o i e j c r u v).keep g f,p.keep g f x,q⟩
def UN(F:Nat->Prop)(w:AI)(M:Nat->Mb)(s:Nat->Option Sg)(m:Mb):AO->Prop
 | .box cs k=>¬F m.Fm/\∃row t,w.heap[m.Fm]?=some (.cells row (W8 k t) (0,0))/\row.size=cs.length/\
     (∀(j:Nat) d,cs[j]?=some d->DR F w M s d (row.getD j undef)/\(row.getD j undef).oneCell'=true)/\Exa k cs row
 | .arr t a b=>0<a/\b.length<=m.cap/\m.cap<=maxLen/\(∀(i:Nat) e,b[i]?=some e->e.length=a)/\
     (m.cap≠0->¬F m.Fm/\∃row,Wo w m.Fm t row/\row.size=m.cap*a/\
       ∀(i:Nat) e (j:Nat) c,b[i]?=some e->e[j]?=some c->PR F w c (row.getD (i*a+j) undef))
 | .Oh a b=>0<a/\b.length<=m.cap/\(∀(i:Nat) e,b[i]?=some e->e.length=a)/\
     (m.cap≠0->F m.Fm/\∃row t f,w.heap[m.Fm]?=some (.cells row t f)/\row.size=m.cap*a/\
       ∀(i:Nat) e (j:Nat) c,b[i]?=some e->e[j]?=some c->PR F w c (row.getD (i*a+j) undef))
 | .iter l pos=>¬F m.Fm/\w.heap[m.Fm]?=some (.stringIter ⟨l.toArray⟩ pos)
 | .Ev g cs=>F g/\∃row t f,w.heap[g]?=some (.cells row t f)/\row.size=cs.length/\∀(j:Nat) c,cs[j]?=some c->PR F w c (row.getD j undef)
 | .Ij o=>o.holds F w m
 | .mp l=>¬F m.Fm/\(∃b clock,w.heap[m.Fm]?=some (.map b clock)/\b.toList.map (λ e=>(e.key,e.val))=l.map (λ p=>(p.1.val,p.2.val)))/\∀p∈l,p.2.flat=true
 | .Fc t e a _ rows hole=>MV F w m t e a rows hole
 | .Yo t a b i c d=>RM F w M s m t a b i c d
def AO.JM(o:AO)(m:Mb)(b:Nat):Prop:=
 match o with
 | .box _ _=>b=m.Fm
 | .arr _ _ _=>m.cap≠0/\b=m.Fm
 | .Oh _ _=>False
 | .iter _ _=>b=m.Fm
 | .Ev _ _=>False
 | .Ij s=>s.JM m b
 | .mp _=>b=m.Fm
 | .Fc _ _ _ _ _ _=>GK m b
 | .Yo _ _ _ _ _ _=>b=m.Fm
structure HR(F:Nat->Prop)(w:AI)(M:Nat->Mb)(h:Hp):Prop where
 obj:∀id o,get h id=some o->UN F w M (sg h) (M id) o
 inj:∀id o Wv o' b,get h id=some o->get h Wv=some o'->o.JM (M id) b->o'.JM (M Wv) b->id=Wv
def Hn(M:Nat->Mb)(h:Hp)(b:Nat):Prop:=∃id o,get h id=some o/\o.JM (M id) b
theorem HR.PH{F:Nat->Prop}{w}{M}{h}(n:HR F w M h){b}(m:Hn M h b):¬F b:=by
 obtain ⟨id,o,j,h2⟩:=m;have:=n.obj id o j;cases o with
 | box cs p=>cases h2;exact this.1
 | arr t a f=>obtain ⟨h2,rfl⟩:=h2;exact (this.2.2.2.2 h2).1
 | Oh a f=>exact h2.elim
 | iter l pos=>cases h2;exact this.1
 | Ev g cs=>exact h2.elim
 | Ij s=>exact s.PH this h2
 | mp l=>cases h2;exact this.1
 | Fc t e a k rows hole=>exact MV.PH this h2
 | Yo t a f i c d=>cases h2;exact RM.nF this
theorem HR.lt{F:Nat->Prop}{w}{M}{h}(p:HR F w M h){b}(n:Hn M h b):b<w.heap.size:=by
 obtain ⟨id,o,m,h2⟩:=n;have:=p.obj id o m;cases o with
 | box cs q=>cases h2;obtain ⟨_,row,t,a,_⟩:=this;exact (Cg.1 a).1
 | arr t f j=>obtain ⟨h2,rfl⟩:=h2;obtain ⟨_,row,a,_⟩:=this.2.2.2.2 h2;exact a.lt
 | Oh f j=>exact h2.elim
 | iter l pos=>cases h2;exact (Cg.1 this.2).1
 | Ev g cs=>exact h2.elim
 | Ij s=>exact s.lt this h2
 | mp l=>cases h2;obtain ⟨_,⟨_,_,a,_⟩,_⟩:=this;exact (Cg.1 a).1
 | Fc t e f k rows hole=>exact MV.lt this h2
 | Yo t f j i c d=>cases h2;obtain ⟨_,a,_⟩:=RM.row this;exact a.lt
theorem UN.keep{F F':Nat->Prop}{w w'}{M M'}{s Q}{m}{o}(h:UN F w M s m o)
   (r:∀b,F b->w'.heap[b]?=w.heap[b]?) (q:∀b,F b->F' b) (N:Ea M M' s Q)
   (DD:∀b,o.JM m b->w'.heap[b]?=w.heap[b]?/\¬F' b):UN F' w' M' Q m o:=by
 cases o with
 | box cs S=>
   obtain ⟨u,row,t,h2,f,a⟩:=h;obtain ⟨n,p⟩:=DD _ rfl;exact ⟨p,row,t,by rw[n];exact h2,f,λ j d K=>⟨(a.1 j d K).1.keep r q N,(a.1 j d K).2⟩,a.2⟩
 | arr t I x=>
   obtain ⟨u,h2,LC,f,a⟩:=h;refine ⟨u,h2,LC,f,λ v=>?_⟩;obtain ⟨n,row,p,z,B⟩:=a v;obtain ⟨R,XB⟩:=DD _ ⟨v,rfl⟩;exact ⟨XB,row,p.keep R,z,λ i e j c E H=>(B i e j c E H).keep r q⟩
 | Oh I x=>
   obtain ⟨u,h2,f,a⟩:=h;refine ⟨u,h2,f,λ v=>?_⟩;obtain ⟨n,row,t,y,p,z,B⟩:=a v;exact ⟨q _ n,row,t,y,by rw[r _ n];exact p,z,λ i e j c E H=>(B i e j c E H).keep r q⟩
 | iter l pos=>
   obtain ⟨n,p⟩:=DD _ rfl;exact ⟨p,by rw[n];exact h.2⟩
 | Ev g cs=>
   obtain ⟨u,row,t,y,h2,a,f⟩:=h;exact ⟨q _ u,row,t,y,by rw[r _ u];exact h2,a,λ j c v=>(f j c v).keep r q⟩
 | Ij o=>exact o.keep h r q DD
 | mp l=>
   obtain ⟨n,p⟩:=DD _ rfl;obtain ⟨_,⟨x,clock,h2,f⟩,a⟩:=h;exact ⟨p,⟨x,clock,by rw[n];exact h2,f⟩,a⟩
 | Fc t e I k rows hole=>exact MV.keep h r q DD
 | Yo t I x i c d=>exact RM.keep h r q N (DD _ rfl)
theorem HR.keep{F:Nat->Prop}{w w'}{M}{h}(e:HR F w M h)(f:∀b,F b->w'.heap[b]?=w.heap[b]?)
   (DD:∀b,Hn M h b->w'.heap[b]?=w.heap[b]?):HR F w' M h:=
 ⟨λ id o a=>(e.obj id o a).keep f (λ _ h=>h) (Ea.refl _ _) (λ b h2=>⟨DD b ⟨id,o,a,h2⟩,e.PH ⟨id,o,a,h2⟩⟩),e.inj⟩
def F7(g:Sg):Bpd where
 sg:=g
 holds:=λ _ _ _=>True
 JM:=λ _ _=>False
 keep:=λ _ _ _ _=>trivial
 PH:=λ _ h=>h.elim
 lt:=λ _ h=>h.elim
 Bol:=λ _ _ _=>trivial
end Go.Am
namespace Go.Am
open Go
def WIf(b:Bool)(x y:Prop):Prop:=(b=true->x)/\(b=false->y)
@[simp] theorem Bhs(x y:Prop):WIf true x y=x:=by simp[WIf]
@[simp] theorem Bb8(x y:Prop):WIf false x y=y:=by simp[WIf]
abbrev Ar:=List (Nat×D)
structure St where
 env:Ar
 hp:Hp
 n:Nat
def St.put(st:St)(t:Option Nat)(d:D):St:=
 match t with
 | some t=>if t<st.n then {st with env:=(t,d)::st.env} else st
 | none=>st
def Dn{α:Type}:List (Nat×α)->Nat->α->List (Nat×α)
 | [],k,x=>[(k,x)]
 | (a,x')::r,k,x=>if a=k then (k,x)::r else (a,x')::Dn r k x
mutual
def M9:Value->D
  | .int k n=> .p (.int k n)
  | .bool b=> .p (.bool b)
  | .string s=> .p (.str s.data.toList)
  | .slice none 0 0=> .cl []
  | .pointer none=> .np
  | .agg cs=> .agg (UG cs.toList)
  | .tuple cs=> .Em (UG cs.toList)
  | _=> .bad
def UG:At->Ai
  | []=>[]
  | v::r=>M9 v::UG r
end
def ev(st:St):Operand->D
 | .tmp t=>(get st.env t).getD .bad
 | .const v=>M9 v
 | .func f=> .fn f []
 | .global _=> .bad
inductive TK where
 | int (k:IntKind) | bool | string | slice (e:AG) | ptr (e:AG) | struct (fs:List (Nat×TypeId)) | array (n:Nat) (e:AG) | other
structure TI where
 size:Nat
 bytes:Nat
 k:TK
 zero:D
def TK.of:TypeDesc->TK
 | .int k=> .int k
 | .bool=> .bool
 | .string=> .string
 | .slice e=> .slice e
 | .pointer e=> .ptr e
 | .struct a=> .struct (a.toList.map λ f=>(f.offset,f.type))
 | .array n e=> .array n e
 | _=> .other
def TK.isAgg:TK->Bool
 | .struct _ | .array _ _=>true
 | _=>false
abbrev AK:=Program
def Dz(P:AK)(t:AG):Option TI:=
 match P.info? t,P.underlying t with
 | some i,some u=>match i.zero with
   | some z=>some ⟨i.size,i.bytes,TK.of u,M9 z⟩
   | none=>none
 | _,_=>none
def D.one:D->Bool
 | .agg _ | .Em _ | .bad=>false
 | _=>true
def D.cells:D->Ai
 | .agg cs=>cs
 | d=>[d]
def D.stored(d:D):Option Ai:=if d.cells.all D.one then some d.cells else none
def Ac9(a:TI)(cs:Ai)(off:Nat)(k:D->Prop):Prop:=
 if a.k.isAgg then off+a.size<=cs.length/\k (.agg ((cs.drop off).take a.size))
 else match cs[off]? with
   | some d=>k d
   | none=>False
def Vg(a:TI)(cs:Ax)(off:Nat)(k:D->Prop):Prop:=
 if a.k.isAgg then off+a.size<=cs.length/\k (.agg (((cs.drop off).take a.size).map D.p))
 else match cs[off]? with
   | some d=>k (.p d)
   | none=>False
def Ah8(P:AK)(h:Hp)(t:AG)(d:D)(k:D->Prop):Prop:=
 match Dz P t,d with
 | some a,.ptr id off=>match get h id with
   | some (.box cs _)=>Ac9 a cs off k
   | _=>False
 | some a,.pe cs=>Vg a cs 0 k
 | some a,.ea id i c N=>match get h id with
   | some (.arr _ _ b)=>N=b.length/\Vg a (b.getD i []) c k
   | some (.Oh _ b)=>N=b.length/\Vg a (b.getD i []) c k
   | some (.Yo _ _ b f e d)=>WIf (decide (i=f/\c=e)) ((N=b.length/\a.k.isAgg=false)/\k d) ((N=b.length/\a.k.isAgg=false)/\Vg a (b.getD i []) c k)
   | _=>False
 | some a,.R9 id i n=>match get h id with
   | some (.Fc _ _ _ g rows hole)=>(n=rows.length/\hole≠some i/\a.k.isAgg=false)/\k (.nr id i (rows.getD i []).length g)
   | _=>False
 | _,_=>False
def Bkc(g:BinOp)(x y:D)(k:D->Prop):Prop:=
 match g,x,y with
 | .add,.p (.int e a),.p (.int f b)=>e=f/\k (.p (.int e (e.wrap (a+b))))
 | .sub,.p (.int e a),.p (.int f b)=>e=f/\k (.p (.int e (e.wrap (a - b))))
 | .mul,.p (.int e a),.p (.int f b)=>e=f/\k (.p (.int e (e.wrap (a*b))))
 | .quo,.p (.int e a),.p (.int f b)=>e=f/\b≠0/\k (.p (.int e (e.wrap (a.tdiv b))))
 | .rem,.p (.int e a),.p (.int f b)=>e=f/\b≠0/\k (.p (.int e (a.tmod b)))
 | .eql,.p (.int e a),.p (.int f b)=>e=f/\k (.p (.bool (decide (a=b))))
 | .neq,.p (.int e a),.p (.int f b)=>e=f/\k (.p (.bool (!decide (a=b))))
 | .lss,.p (.int e a),.p (.int f b)=>e=f/\k (.p (.bool (decide (a<b))))
 | .leq,.p (.int e a),.p (.int f b)=>e=f/\k (.p (.bool (decide (a<=b))))
 | .gtr,.p (.int e a),.p (.int f b)=>e=f/\k (.p (.bool (decide (b<a))))
 | .geq,.p (.int e a),.p (.int f b)=>e=f/\k (.p (.bool (decide (b<=a))))
 | .and,.p (.int e a),.p (.int f b)=>e=f/\k (.p (.int e (e.wrap (BitVec.ofInt e.bits a&&& BitVec.ofInt e.bits b).toNat)))
 | .shr,.p (.int e a),.p (.int _ b)=>0<=b/\k (.p (.int e (a.fdiv (2 ^ (min b.toNat e.bits)))))
 | .add,.p (.str a),.p (.str b)=>a.length+b.length<=maxLen/\k (.p (.str (a++b)))
 | .eql,.p (.str a),.p (.str b)=>k (.p (.bool (decide (a=b))))
 | .neq,.p (.str a),.p (.str b)=>k (.p (.bool (!decide (a=b))))
 | _,_,_=>False
inductive FK where
 | int | bool | str
def Oi(P:AK):Nat->List Field->Option (List FK)
 | _,[]=>some []
 | i,f::r=>if f.name≠ "_" /\f.offset=i then
     match Dz P f.type,Oi P (i+1) r with
     | some ⟨1,_,.int _,_⟩,some l=>some (.int::l)
     | some ⟨1,_,.bool,_⟩,some l=>some (.bool::l)
     | some ⟨1,_,.string,_⟩,some l=>some (.str::l)
     | _,_=>none
   else none
def Aur(P:AK)(e:AG):Option FK:=
 match Dz P e with
 | some ⟨1,_,.int _,_⟩=>some .int
 | some ⟨1,_,.bool,_⟩=>some .bool
 | some ⟨1,_,.string,_⟩=>some .str
 | _=>none
def Bef(P:AK)(t:AG):Option (List FK):=
 if P.eqGuardType P.depth t=false/\P.stoodInHeld t=false then
   match P.underlying t with
   | some (.struct a)=>Oi P 0 a.toList
   | some (.array n e)=>(Aur P e).map (List.replicate n)
   | _=>none
 else none
def TQ:List FK->Ai->Ai->Option Bool
 | [],[],[]=>some true
 | .int::e,.p (.int k a)::f,.p (.int i b)::g=>if k=i then (TQ e f g).map (decide (a=b)&& ·) else none
 | .bool::e,.p (.bool a)::f,.p (.bool b)::g=>(TQ e f g).map ((a==b)&& ·)
 | .str::e,.p (.str a)::f,.p (.str b)::g=>(TQ e f g).map (decide (a=b)&& ·)
 | _,_,_=>none
def Adn(P:AK)(t:AG)(b e:Ai):Option Bool:=(Bef P t).bind λ a=>TQ a b e
def TU(P:AK)(f:BinOp)(t:AG)(x y:D)(k:D->Prop):Prop:=
 match f,x,y with
 | .eql,.p (.bool a),.p (.bool b)=>(match Dz P t with | some ⟨_,_,.bool,_⟩=>k (.p (.bool (a==b))) | _=>False)
 | .neq,.p (.bool a),.p (.bool b)=>(match Dz P t with | some ⟨_,_,.bool,_⟩=>k (.p (.bool (!(a==b)))) | _=>False)
 | .eql,.agg g,.agg i=>(match Adn P t g i with | some b=>k (.p (.bool b)) | none=>False)
 | .neq,.agg g,.agg i=>(match Adn P t g i with | some b=>k (.p (.bool (!b))) | none=>False)
 | .eql,.p (.sl e),.cl []=>(match Dz P t with | some ⟨_,_,.slice _,_⟩=>e≠[]/\k (.p (.bool false)) | _=>False)
 | .eql,.cl e,.cl []=>(match Dz P t with | some ⟨_,_,.slice _,_⟩=>k (.p (.bool e.isEmpty)) | _=>False)
 | f,x,y=>Bkc f x y k
def unD(e:UnOp)(x:D)(k:D->Prop):Prop:=
 match e,x with
 | .not,.p (.bool b)=>k (.p (.bool (!b)))
 | .neg,.p (.int a n)=>k (.p (.int a (a.wrap (0 - n))))
 | _,_=>False
def An9(c a b:D)(k:D->Prop):Prop:=
 match c,a,b with
 | .p (.bool t),.p (.bool x),.p (.bool y)=>k (.p (.bool (if t then x else y)))
 | .p (.bool t),a,b=>WIf t (k a) (k b)
 | _,_,_=>False
def Aam:Ag->Option Ad
 | []=>some []
 | [.int .u8 n]::r=>(Aam r).map (UInt8.ofNat n.toNat:: ·)
 | _=>none
def Aq4(P:AK)(s d:AG)(x:D)(k:D->Prop):Prop:=
 match Dz P s,Dz P d,x with
 | some _,some ⟨_,_,.int a,_⟩,.p (.int _ n)=>k (.p (.int a (a.wrap n)))
 | some _,some ⟨_,_,.string,_⟩,.p (.str l)=>k (.p (.str l))
 | some ⟨_,_,.slice e,_⟩,some ⟨_,_,.string,_⟩,.p (.sl b)=>match Dz P e,Aam b with
   | some ⟨_,_,.int .u8,_⟩,some l=>k (.p (.str l))
   | _,_=>False
 | _,_,_=>False
def Oj(P:AK)(t:AG)(x:D)(f:Nat)(h:Hp)(k:D->Prop):Prop:=
 match Dz P t with
 | some ⟨_,_,.struct a,_⟩=>match a[f]? with
   | some (o,u)=>match Dz P u with
     | some b=>b.size≠0/\match x with
       | .ptr id off=>k (.ptr id (off+o))
       | .pe cs=>k (.pe (cs.drop o))
       | .ea id i c N=>(match sg h id with | some (.arr _ m)=>N=m | _=>False)/\k (.ea id i (c+o) N)
       | _=>False
     | none=>False
   | none=>False
 | _=>False
def Adh(P:AK)(t:AG)(x:D)(f:Nat)(k:D->Prop):Prop:=
 match Dz P t with
 | some ⟨_,_,.struct a,_⟩=>match a[f]?,x with
   | some (o,u),.agg cs=>match Dz P u with
     | some b=>Ac9 b cs o k
     | none=>False
   | _,_=>False
 | _=>False
def Oe(P:AK)(t:AG)(x i:D)(h:Hp)(k:D->Prop):Prop:=
 match Dz P t,i with
 | some ⟨_,_,.slice e,_⟩,.p (.int _ n)=>match Dz P e with
   | some a=>match x with
     | .p (.sl b)=>(0<=n/\n<b.length)/\(b.getD n.toNat []).length=a.size/\k (.pe (b.getD n.toNat []))
     | .cl b=>(0<=n/\n<b.length)/\(b.getD n.toNat []).length=a.size/\k (.pe (b.getD n.toNat []))
     | .ref id off len N=>match sg h id with
       | some (.arr f m)=>(0<=n/\n<len)/\f=a.size/\N=m/\k (.ea id (off+n.toNat) 0 N)
       | _=>False
     | .E3 id N=>(0<=n/\n<N)/\a.size=1/\k (.R9 id n.toNat N)
     | _=>False
   | none=>False
 | some ⟨_,_,.array m e,_⟩,.p (.int _ n)=>match Dz P e,x with
   | some a,.ptr id off=>(0<=n/\n<m)/\k (.ptr id (off+n.toNat*a.size))
   | some a,.pe cs=>(0<=n/\n<m)/\k (.pe (cs.drop (n.toNat*a.size)))
   | _,_=>False
 | _,_=>False
def Acs(P:AK)(t:AG)(x i:D)(k:D->Prop):Prop:=
 match Dz P t,x,i with
 | some ⟨_,_,.string,_⟩,.p (.str l),.p (.int _ n)=>(0<=n/\n<l.length)/\k (.p (.int .u8 (l.getD n.toNat 0).toNat))
 | some ⟨_,_,.array m e,_⟩,.agg cs,.p (.int _ n)=>match Dz P e with
   | some a=>(0<=n/\n<m)/\Ac9 a cs (n.toNat*a.size) k
   | none=>False
 | _,_,_=>False
def Ic(st:St)(o:Option Operand)(Al8:Int)(k:Int->Prop):Prop:=
 match o with
 | none=>k Al8
 | some x=>match ev st x with
   | .p (.int _ n)=>k n
   | _=>False
def Abr(P:AK)(st:St)(t:AG)(x:D)(j g n:Option Operand)(k:D->Prop):Prop:=
 match Dz P t,x with
 | some ⟨_,_,.string,_⟩,.p (.str l)=>n.isNone=true/\Ic st j 0 λ a=>Ic st g l.length λ b=>(0<=a/\a<=b/\b<=l.length)/\k (.p (.str ((l.take b.toNat).drop a.toNat)))
 | some ⟨_,_,.slice e,_⟩,x=>match Dz P e with
   | some o=>match x with
     | .p (.sl f)=>match n with
       | none=>Ic st j 0 λ a=>Ic st g f.length λ b=>(0<=a/\a<=b/\b<=f.length)/\(∀(i:Nat) e,f[i]?=some e->e.length=o.size)/\k (.p (.sl ((f.take b.toNat).drop a.toNat)))
       | some m=>Ic st j 0 λ a=>Ic st g f.length λ b=>Ic st (some m) 0 λ c=>(0<=a/\a<=b/\b=c/\c<=f.length)/\(∀(i:Nat) e,f[i]?=some e->e.length=o.size)/\g.isSome=true/\k (.cz ((f.take b.toNat).drop a.toNat))
     | .ref id off len N=>match sg st.hp id with
       | some (.arr q m)=>n.isNone=true/\q=o.size/\Ic st j 0 λ a=>Ic st g len λ b=>(0<=a/\a<=b/\b<=len)/\N=m/\k (.ref id (off+a.toNat) (b - a).toNat N)
       | _=>False
     | _=>False
   | none=>False
 | _,_=>False
def J2(place:Nat->Option (Nat×Nat))(cells:Ai):Ar->Option Ai
 | []=>some cells
 | (i,d)::rest=>match place i with
   | none=>none
   | some (off,size)=>if d.cells.length=size/\off+size<=cells.length/\d.cells.all D.one=true then J2 place (cells.take off++d.cells++cells.drop (off+size)) rest else none
def Rh(P:AK):List (Nat×TypeId)->Option Al
 | []=>some []
 | (o,u)::r=>match Dz P u,Rh P r with
   | some a,some l=>some ((o,a.size)::l)
   | _,_=>none
abbrev AF:=List (Nat×Operand)
def Aeo(P:AK)(st:St)(t:AG)(parts:AF)(k:D->Prop):Prop:=
 match Dz P t with
 | some ⟨_,_,.struct f,z⟩=>
   match Rh P f,z with
   | some g,.agg a=>match J2 (λ i=>g[i]?) a (parts.map λ q=>(q.1,ev st q.2)) with
     | some cs=>k (.agg cs)
     | none=>False
   | _,_=>False
 | some ⟨_,_,.array _ e,z⟩=>
   match Dz P e,z with
   | some b,.agg a=>match J2 (λ i=>some (i*b.size,b.size)) a (parts.map λ q=>(q.1,ev st q.2)) with
     | some cs=>k (.agg cs)
     | none=>False
   | _,_=>False
 | _=>False
def Tr(x:D)(i:Nat)(k:D->Prop):Prop:=
 match x with
 | .Em cs=>match cs[i]? with
   | some d=>k d
   | none=>False
 | _=>False
inductive KK where
 | int (k:IntKind) | str
def KK.fit:KK->Pd->Bool
 | .int k,.int a _=>decide (a=k)
 | .str,.str _=>true
 | _,_=>false
def pdV:Value->Option Pd
 | .int k n=>some (.int k n)
 | .bool b=>some (.bool b)
 | .string s=>some (.str s.data.toList)
 | _=>none
def mapOf(P:AK)(t:AG):Option (KK×Pd):=
 match P.underlying t with
 | some (.map k e)=>match P.underlying k,(P.info? e).bind (·.zero) with
   | some (.int q),some z=>(pdV z).map λ y=>(.int q,y)
   | some .string,some z=>(pdV z).map λ y=>(.str,y)
   | _,_=>none
 | _=>none
def Pd.same:Pd->Pd->Option Bool
 | .int k a,.int e b=>if k=e then some (a==b) else none
 | .str a,.str b=>some (a==b)
 | _,_=>none
def Aci(k:Pd):AE->Option (Option Pd)
 | []=>some none
 | (a,v)::r=>match Pd.same k a with
   | some true=>some (some v)
   | some false=>Aci k r
   | none=>none
def Brc(k:Pd)(l:AE):Prop:=(Aci k l).isSome=true
def Bcx(k:Pd)(l:AE):Option Pd:=(Aci k l).getD none
def Awj(k v:Pd):AE->AE
 | []=>[(k,v)]
 | (a,v')::r=>if Pd.same k a=some true then (k,v)::r else (a,v')::Awj k v r
def lookD(z:Pd)(a:Bool)(r:Option Pd):D:=if a then .Em [.p (r.getD z),.p (.bool r.isSome)] else .p (r.getD z)
def Ake(P:AK)(h:Hp)(t:AG)(x i:D)(a:Bool)(k:D->Prop):Prop:=False
def As6(P:AK)(h:Hp)(t:AG)(m i v:D)(k:Hp->Prop):Prop:=False
def Ve(u t:Nat):Bool:=decide (u=t)
def Acw(t:AG):D->Option D
 | .p (.int k n)=>some (.p (.ifi t k n))
 | .p (.str l)=>some (.p (.ifs t l))
 | _=>none
def ifD(P:AK)(t:AG)(x:D):Option D:=match Dz P t with
 | some ⟨_,_,.int _,_⟩=>Acw t x
 | some ⟨_,_,.string,_⟩=>Acw t x
 | _=>none
def asV(t:AG)(z:D):D->Option D
 | .p (.ifi u k n)=>some (if Ve u t=true then .Em [.p (.int k n),.p (.bool true)] else .Em [z,.p (.bool false)])
 | .p (.ifs u l)=>some (if Ve u t=true then .Em [.p (.str l),.p (.bool true)] else .Em [z,.p (.bool false)])
 | _=>none
def asD(P:AK)(t:AG)(x:D):Option D:=match Dz P t with
 | some ⟨_,_,.int _,z⟩=>asV t z x
 | some ⟨_,_,.string,z⟩=>asV t z x
 | _=>none
def vOp(P:AK)(st:St)(e:Op)(k:D->Prop):Prop:=
 match e with
 | .move x | .assign x=>k (ev st x)
 | .pick c a b=>An9 (ev st c) (ev st a) (ev st b) k
 | .binOp e t x y _=>TU P e t (ev st x) (ev st y) k
 | .unOp e _ x=>unD e (ev st x) k
 | .nilCheck x=>match ev st x with
   | .ptr id off=>k (.ptr id off)
   | .pe cs=>k (.pe cs)
   | .ea id i c N=>(match sg st.hp id with | some (.arr _ m)=>N=m | _=>False)/\k (.ea id i c N)
   | _=>False
 | .convert s d x=>Aq4 P s d (ev st x) k
 | .build t parts=>Aeo P st t parts.toList k
 | .load t a=>Ah8 P st.hp t (ev st a) k
 | .slice t x j g l=>Abr P st t (ev st x) j g l k
 | .fieldAddr t x f=>Oj P t (ev st x) f st.hp k
 | .field t x f=>Adh P t (ev st x) f k
 | .indexAddr t x i=>Oe P t (ev st x) (ev st i) st.hp k
 | .index t x i=>Acs P t (ev st x) (ev st i) k
 | .extract t i=>Tr (ev st t) i k
 | .lookup t x i n=>Ake P st.hp t (ev st x) (ev st i) n k
 | .makeFunc (.func f) first cap=>first.size=0/\k (.fn f (cap.toList.map (ev st)))
 | .makeInterface t x=>match ifD P t (ev st x) with
   | some d=>k d
   | none=>False
 | .typeAssert x _ t true=>match asD P t (ev st x) with
   | some d=>k d
   | none=>False
 | _=>False
def Gz(l:Ad):Ag:=l.map λ b=>[Pd.int .u8 b.toNat]
def froze(h:Hp)(id:Nat):Hp:=
 match get h id with
 | some (.arr _ b a)=>Dn h id (.Oh b a)
 | _=>h
def PG(h:Hp)(d:D)(k:Pd->Hp->Prop):Prop:=
 match d with
 | .p x=>k x h
 | .cl a=>k (.sl a) h
 | .cz a=>k (.sl a) h
 | .ref id off len N=>match get h id with
   | some (.arr _ _ a)=>N=a.length/\k (.sl ((a.drop off).take len)) (froze h id)
   | some (.Oh _ a)=>N=a.length/\k (.sl ((a.drop off).take len)) h
   | _=>False
 | .E3 id n=>match get h id with
   | some (.Fc _ _ e b rows none)=>n=rows.length/\k (.sl (rows.map λ r=>[.sl r])) (Dn h id (.Ij (F7 (.Fc e rows.length b))))
   | _=>False
 | _=>False
def Lx:Hp->Ai->(Ax->Hp->Prop)->Prop
 | h,[],k=>k [] h
 | h,d::r,k=>PG h d λ x b=>Lx b r λ e a=>k (x::e) a
def R6(h:Hp)(d:D)(k:Ag->Prop):Prop:=
 match d with
 | .p (.sl b)=>k b
 | .p (.str l)=>k (Gz l)
 | .cl b=>k b
 | .ref id off len N=>match get h id with
   | some (.arr _ _ a)=>N=a.length/\k ((a.drop off).take len)
   | some (.Oh _ a)=>N=a.length/\k ((a.drop off).take len)
   | _=>False
 | _=>False
def chunk{α:Type}(sz:Nat):Nat->List α->List (List α)
 | 0,_=>[]
 | n+1,l=>l.take sz::chunk sz n (l.drop sz)
def z8(P:AK)(h:Hp)(q:Nat)(t t2:AG)(s x:D)(k:D->Hp->Prop):Prop:=
 match Dz P t,Dz P t2 with
 | some ⟨_,_,.slice e,_⟩,some ti2=>(match ti2.k with | .slice _=>True | .string=>True | _=>False)/\match Dz P e with
   | some f=>R6 h x λ b=>(∀y∈b,y.length=f.size)/\0<f.size/\f.zero.cells.length=f.size/\match s with
     | .cl a=>get h q=none/\(a=[]∨b≠[])/\(∀y∈a,y.length=f.size)/\(a.length+b.length)*f.bytes<=140737488355328/\a.length+b.length<=140737488355328/\
         k (.ref q 0 (a++b).length (a++b).length) ((q,.arr e f.size (a++b))::h)
     | .cz a=>WIf b.isEmpty ((∀y∈a,y.length=f.size)/\k (.cz a) h) (get h q=none/\(∀y∈a,y.length=f.size)/\(a.length+b.length)*f.bytes<=140737488355328/\a.length+b.length<=140737488355328/\
         k (.ref q 0 (a++b).length (a++b).length) ((q,.arr e f.size (a++b))::h))
     | .ref id off len N=>match get h id with
       | some (.arr j g a)=>off=0/\N=a.length/\len=a.length/\j=e/\g=f.size/\(a.length+b.length)*f.bytes<=140737488355328/\a.length+b.length<=140737488355328/\
           k (.ref id 0 (a++b).length (a++b).length) (Dn h id (.arr e g (a++b)))
       | _=>False
     | .nr id i len m=>match get h id with
       | some (.Fc n j g l rows none)=>(j=e/\g=f.size/\m=l/\len=(rows.getD i []).length/\i<rows.length/\get h q=none)/\(len+b.length)*f.bytes<=140737488355328/\len+b.length<=140737488355328/\
           k (.ref q 0 (rows.getD i []++b).length (rows.getD i []++b).length) ((q,.arr e g (rows.getD i []++b))::Dn h id (.Fc n j g (l+1) rows (some i)))
       | _=>False
     | _=>False
   | none=>False
 | _,_=>False
def Bhj(P:AK)(h:Hp)(t t2:AG)(id N:Nat)(x:D)(k:D->Hp->Prop):Prop:=
 match Dz P t,Dz P t2,x with
 | some ⟨_,_,.slice e,_⟩,some ⟨_,_,.slice _,_⟩,.ref p 0 1 1=>match Dz P e,get h p with
   | some ⟨1,j,.slice _,.cl []⟩,some (.Yo _ 1 [_] 0 0 (.ref i 0 n o))=>match get h i,get h id with
     | some (.arr g f a),some (.Fc l b Va m rows none)=>((l=e/\b=g/\Va=f)/\n=a.length/\o=a.length/\N=rows.length/\N+1<=140737488355328/\(N+1)*j<=140737488355328)/\
         k (.E3 id (N+1)) (Dn (Dn h id (.Fc e g f (m+2) (rows++[a]) none)) i (.Ij (F7 (.arr f (a.length+1)))))
     | _,_=>False
   | _,_=>False
 | _,_,_=>False
def Bhk(P:AK)(h:Hp)(q:Nat)(t t2:AG)(s x:D)(k:D->Hp->Prop):Prop:=
 match s with
 | .E3 id N=>Bhj P h t t2 id N x k
 | s=>z8 P h q t t2 s x k
def Bgx(P:AK)(h:Hp)(t:AG)(s x:D)(k:D->Hp->Prop):Prop:=False
def Qj(ty:AG)(cs:Ai):TypeId:=match ty with
 | 0=>0
 | t+1=>if cs.any D.Afk=true then 0 else t+1
def Bnj(hole:Option Nat)(k:Nat):Nat:=match hole with
 | none=>k+2
 | some _=>k+1
def Td(h:Hp)(id i n:Nat)(v:D)(k:Hp->Prop):Prop:=
 match v with
 | .ref q off len N=>match get h q,get h id with
   | some (.arr f ZC a),some (.Fc t e b g rows hole)=>(off=0/\f=e/\ZC=b/\N=a.length/\len=N/\n=rows.length/\(hole=none∨hole=some i))/\
       k (Dn (Dn h id (.Fc t e b (Bnj hole g) (rows.set i a) none)) q (.Ij (F7 (.arr b (a.length+1)))))
   | _,_=>False
 | _=>False
def Abm(P:AK)(h:Hp)(t:AG)(a v:D)(k:Hp->Prop):Prop:=
 match Dz P t with
 | some m=>match v.stored with
   | some cs=>cs.length=m.size/\match a with
     | .ptr id off=>match get h id with
       | some (.box b o)=>off+cs.length<=b.length/\k (Dn h id (.box (b.take off++cs++b.drop (off+cs.length)) (Qj o (b.take off++cs++b.drop (off+cs.length)))))
       | _=>False
     | .ea id i c N=>Lx h cs λ g j=>match get j id with
       | some (.arr e l f)=>N=f.length/\c+g.length<=l/\k (Dn j id (.arr e l (f.set i ((f.getD i []).take c++g++(f.getD i []).drop (c+g.length)))))
       | _=>False
     | .R9 id i n=>Td h id i n v k
     | _=>False
   | none=>False
 | none=>False
def npT(t:AG)(cs:Ai):TypeId:=if cs.any D.Afk=true then t else 0
def Awn(P:AK)(st:St)(q:Nat)(f:Op)(k:D->Hp->Prop):Prop:=
 match f with
 | .alloc t=>match Dz P t with
   | some b=>match b.zero.stored with
     | some cs=>get st.hp q=none/\k (.ptr q 0) ((q,.box cs (npT t cs))::st.hp)
     | none=>False
   | none=>False
 | .box _ x=>match (ev st x).stored with
   | some cs=>get st.hp q=none/\k (.ptr q 0) ((q,.box cs)::st.hp)
   | none=>False
 | .store t a x=>Abm P st.hp t (ev st a) (ev st x) λ h=>k (.Em []) h
 | .makeMap _ none=>get st.hp q=none/\k (.mv q) ((q,.mp [])::st.hp)
 | .mapUpdate t m i x=>As6 P st.hp t (ev st m) (ev st i) (ev st x) λ h=>k (.Em []) h
 | .buildSlice t n parts=>match Dz P t with
   | some ⟨_,_,.slice e,_⟩=>match Dz P e with
     | some b=>0<b.size/\n*b.size<=16777216/\match J2 (λ i=>some (i*b.size,b.size)) (List.replicate (n*b.size) .bad) (parts.toList.map λ q=>(q.1,ev st q.2)) with
       | some cs=>Lx st.hp cs λ g h=>get h q=none/\k (.ref q 0 n n) ((q,.arr e b.size (chunk b.size n g))::h)
       | none=>False
     | none=>False
   | _=>False
 | .makeSlice t l m=>match Dz P t,ev st l,ev st m with
   | some ⟨_,_,.slice e,_⟩,.p (.int _ l),.p (.int _ m)=>match Dz P e with
     | some b=>0<b.size/\get st.hp q=none/\(0<=l/\l<=m/\m*b.bytes<=140737488355328/\m<=140737488355328)/\b.zero.cells.length=b.size/\
         Lx [] b.zero.cells λ j _=>k (.ref q 0 l.toNat l.toNat) ((q,.arr e b.size (List.replicate l.toNat j))::st.hp)
     | none=>False
   | _,_,_=>False
 | _=>False
def Acn(t:AG):Bool:=match t with | 28=>true | _=>false
def Bl6(t:AG):Bool:=match t with | 178=>true | _=>false
def FM(st:St)(a:Op):Option (TypeId×D):=match a with
 | .buildSlice t 1 parts=>match Acn t,parts.toList with
   | true,[(0,x)]=>match ev st x with
     | .ref b 0 m N=>some (t,.ref b 0 m N)
     | _=>none
   | _,_=>none
 | _=>none
def Aup(P:AK)(h:Hp)(q:Nat)(t:AG)(d:D)(k:D->Hp->Prop):Prop:=
 match Dz P t with
 | some ⟨_,_,.slice e,_⟩=>match Dz P e with
   | some ⟨1,_,.slice _,.cl []⟩=>get h q=none/\k (.ref q 0 1 1) ((q,.Yo e 1 [[.sl []]] 0 0 d)::h)
   | _=>False
 | _=>False
def mOp(P:AK)(st:St)(q:Nat)(a:Op)(k:D->Hp->Prop):Prop:=
 match FM st a with
 | some (t,d)=>Aup P st.hp q t d k
 | none=>Awn P st q a k
end Go.Am
namespace Go.Am
open Go
structure Ctx where
 w0:World
 F0:Nat->Prop
 O0:Nat->Prop
 M0:Nat->Mb
 s0:Nat->Option Sg
structure Au5(c:Ctx)(w:AI)(F:Nat->Prop)(M:Nat->Mb)(h:Hp):Prop where
 os:w.os=c.w0.os
 tape:w.tape=c.w0.tape
 output:w.output=c.w0.output
 size:c.w0.heap.size<=w.heap.size
 Ua:∀b,b<c.w0.heap.size->¬c.O0 b->w.heap[b]?=c.w0.heap[b]?
 F0:∀b,c.F0 b->F b
 Fn:∀b,F b->c.F0 b∨c.O0 b∨c.w0.heap.size<=b
 Fl:∀b,F b->b<w.heap.size
 own:∀b,Hn M h b->c.O0 b∨c.w0.heap.size<=b
 sgk:Ea c.M0 M c.s0 (sg h)
 s0b:∀id,c.s0 id≠none->base<=id
structure Rel(c:Ctx)(st:St)(a:Act)(w:AI)(F:Nat->Prop)(M:Nat->Mb):Prop where
 env:∀t d,get st.env t=some d->DR F w M (sg st.hp) d (a.tmps.getD t undef)
 size:a.tmps.size=st.n
 defers:a.defers=[]
 heap:HR F w M st.hp
 keep:Au5 c w F M st.hp
theorem Dj{α:Type}(k')(x:α)(r)(k):get ((k',x)::r) k=if k'=k then some x else get r k:=rfl
mutual
theorem NI (F:Nat->Prop) (w:AI) (M:Nat->Mb) (s:Nat->Option Sg):∀v:Value,DR F w M s (M9 v) v
  | .int k n=>by simp only[M9];exact .p (.int k n)
  | .bool b=>by simp only[M9];exact .p (.bool b)
  | .string s=>by simp only[M9];have:=PR.str (F:=F) (w:=w) s.data.toList;simpa using DR.p this
  | .slice none 0 0=>by simp only[M9];exact .cl [] none (.sl0 none 0) (λ _=>rfl)
  | .agg cs=>by
    simp only[M9];have h:=VS F w M s cs.toList;refine .agg _ cs (by simpa using h.1.symm) λ i c hc=>?_;have:=h.2 i c hc
    simpa [Array.getD_eq_getD_getElem?,List.getD] using this
  | .tuple cs=>by
    simp only[M9];have h:=VS F w M s cs.toList;refine .Em _ cs (by simpa using h.1.symm) λ i c hc=>?_;have:=h.2 i c hc
    simpa [Array.getD_eq_getD_getElem?,List.getD] using this
  | .float _ _=>by simp only[M9];exact .bad _
  | .complex _ _ _=>by simp only[M9];exact .bad _
  | .pointer none=>by simp only[M9];exact .np
  | .pointer (some _)=>by simp only[M9];exact .bad _
  | .slice (some _) _ _=>by simp only[M9];exact .bad _
  | .slice none (_+1) _=>by simp only[M9];exact .bad _
  | .slice none 0 (_+1)=>by simp only[M9];exact .bad _
  | .map _=>by simp only[M9];exact .bad _
  | .chan _=>by simp only[M9];exact .bad _
  | .func _ _ _=>by simp only[M9];exact .bad _
  | .nilFunc=>by simp only[M9];exact .bad _
  | .iface _ _=>by simp only[M9];exact .bad _
  | .nilIface=>by simp only[M9];exact .bad _
theorem VS (F:Nat->Prop) (w:AI) (M:Nat->Mb) (s:Nat->Option Sg):∀vs:At,
    (UG vs).length=vs.length/\∀(i:Nat) c,(UG vs)[i]?=some c->DR F w M s c (vs.getD i undef)
  | []=>by simp[UG]
  | v::r=>by
    have h0:=NI F w M s v;have h1:=VS F w M s r;refine ⟨by simp[UG,h1.1],λ i c hc=>?_⟩;cases i with
    | zero=>simp only[UG,List.getElem?_cons_zero,Option.some.injEq] at hc;subst hc;simpa [List.getD] using h0
    | succ i=>simp only[UG,List.getElem?_cons_succ] at hc;simpa [List.getD] using h1.2 i c hc
end
section
variable {P:AK} {c:Ctx} {st:St} {a:Act} {w:AI} {F:Nat->Prop} {M:Nat->Mb}
abbrev AM:=Operand
theorem Di(b:Rel c st a w F M)(x:AM):DR F w M (sg st.hp) (ev st x) (a.eval x):=by
 cases x with
 | tmp t=>
   simp only[ev,Act.eval];cases h:get st.env t with
   | none=>exact .bad _
   | some d=>exact b.env t d h
 | const v=>exact NI _ _ _ _ v
 | global g=>exact .bad _
 | func f=>exact .fn f [] #[] rfl (λ i c h=>by simp at h)
theorem De{t:AG}{f:TI}(h:Dz P t=some f):∃i u z,P.info? t=some i/\P.underlying t=some u/\i.zero=some z/\f=⟨i.size,i.bytes,TK.of u,M9 z⟩:=by
 unfold Dz at h;cases b:P.info? t with
 | none=>rw[b] at h;cases h
 | some i=>
   cases h2:P.underlying t with
   | none=>rw[b,h2] at h;cases h
   | some u=>
     cases e:i.zero with
     | none=>rw[b,h2] at h;simp only[e] at h;cases h
     | some z=>rw[b,h2] at h;simp only[e] at h;cases h;exact ⟨i,u,z,rfl,rfl,e,rfl⟩
abbrev AN:=TypeDesc
theorem TK.of_slice{u:AN}{e:AG}(h:TK.of u= .slice e):u= .slice e:=by cases u<;>simp_all [TK.of]
theorem TK.of_struct{u:AN}{b:List (Nat×TypeId)}(h:TK.of u= .struct b):∃gs,u= .struct gs/\b=gs.toList.map λ f=>(f.offset,f.type):=by
 cases u<;>simp_all [TK.of]
theorem TK.of_array{u:AN}{n:Nat}{e:AG}(h:TK.of u= .array n e):u= .array n e:=by cases u<;>simp_all [TK.of]
theorem TK.of_string{u:AN}(h:TK.of u= .string):u= .string:=by cases u<;>simp_all [TK.of]
theorem TK.of_int{u:AN}{k:IntKind}(h:TK.of u= .int k):u= .int k:=by cases u<;>simp_all [TK.of]
abbrev AP:=TypeInfo
theorem Fb{t:AG}{i:AP}(h:P.info? t=some i)(w:AI):(sizeOf t).run P w= .ok i.size w:=by
 simp[sizeOf,typeInfo,h]
theorem Aby{t:AG}{u:AN}(h:P.underlying t=some u)(w:AI):(isAgg t).run P w= .ok (TK.of u).isAgg w:=by
 unfold isAgg;rw[Sem.run_bind,run_underlying h w];cases u<;>rfl
theorem AW{p:Prop}(h:p:=by simp;omega):p:=h
theorem H6{t:AG}{i:AP}{u:AN}(n:P.info? t=some i)(o:P.underlying t=some u){b off:Nat}{row:Array Value}{e:AG}{k:Nat×Nat}
   (hb:w.heap[b]?=some (.cells row e k)) (l:(TK.of u).isAgg=true->off+i.size<=row.size∨i.size=0) (UJ:(TK.of u).isAgg=false->off<row.size):
   (loadVar t ⟨b,off,none⟩).run P w= .ok (if (TK.of u).isAgg then .agg ((row.toList.drop off).take i.size).toArray else row.getD off undef) w:=by
 unfold loadVar;rw[Sem.run_bind,Aby o w];simp only[Result.andThen_ok];cases m:(TK.of u).isAgg with
 | false=>
   have:=UJ m;have f:w.cell? ⟨b,off,none⟩=some (row.getD off undef):=by
     rw[cell_of_row w b off row e k hb,Bs];simp[this]
   simp[f]
 | true=>
   have p:=l m;have hlen:((row.toList.drop off).take i.size).length=i.size:=AW;have f:=run_loadCells_list (P:=P) w ⟨b,off,none⟩ ((row.toList.drop off).take i.size) (λ j v g=>by
     rw[Addr.add_lit,cell_of_row w b (off+j) row e k hb];rw[BM] at g;split at g
     . simpa using g
     . cases g)
   rw[hlen] at f;simp[Fb n w,f]
theorem S5{f:TI}{cs:Ai}{off:Nat}{k:D->Prop}(h:Ac9 f cs off k){row:Array Value}{s:Nat->Option Sg}(Ek:row.size=cs.length)
   (g:∀(j:Nat) d,cs[j]?=some d->DR F w M s d (row.getD j undef)):
   (f.k.isAgg=true->off+f.size<=row.size∨f.size=0)/\(f.k.isAgg=false->off<row.size)/\
   ∃d,k d/\DR F w M s d (if f.k.isAgg then .agg ((row.toList.drop off).take f.size).toArray else row.getD off undef):=by
 unfold Ac9 at h;cases l:f.k.isAgg with
 | true=>
   rw[l] at h;simp only[B5] at h;refine ⟨λ _=> .inl (by rw[Ek];exact h.1),λ h=>by simp at h,_,h.2,?_⟩;simp only[B5];refine .agg _ _ (by simp[Ek]) λ i d b=>?_;rw[BM] at b;split at b
   . rename_i Dv;rw[BX] at b;have:=g _ d b;have Sb:off+i<cs.length:=(Bn.1 b).1;have e:(((row.toList.drop off).take f.size).toArray).getD i undef=row.getD (off+i) undef:=by
       rw[Bs,Bs];simp[BM,Dv]
     rw[e];exact this
   . cases b
 | false=>
   rw[l] at h;simp only[BY,Cy] at h ⊢;cases b:cs[off]? with
   | none=>rw[b] at h;exact h.elim
   | some d=>
     rw[b] at h;exact ⟨λ h=>h.elim,λ _=>by rw[Ek];exact (Bn.1 b).1,d,h,g off d b⟩
theorem ZM{b:TI}{cs:Ax}{off:Nat}{k:D->Prop}(h:Vg b cs off k){row:Array Value}{s:Nat->Option Sg}(o:Nat)
   (m:∀(j:Nat) c,cs[j]?=some c->o+j<row.size) (l:∀(j:Nat) c,cs[j]?=some c->PR F w c (row.getD (o+j) undef)):
   (b.k.isAgg=true->(o+off)+b.size<=row.size∨b.size=0)/\(b.k.isAgg=false->o+off<row.size)/\
   ∃d,k d/\DR F w M s d (if b.k.isAgg then .agg ((row.toList.drop (o+off)).take b.size).toArray else row.getD (o+off) undef):=by
 unfold Vg at h;cases n:b.k.isAgg with
 | true=>
   rw[n] at h;simp only[B5] at h;have HK:(o+off)+b.size<=row.size∨b.size=0:=by
     rcases Nat.eq_zero_or_pos b.size with g | g
     . exact .inr g
     . refine .inl ?_;have q:=h.1;have Dv:off+b.size - 1<cs.length:=AQ;have:=m (off+b.size - 1) _ (Bp Dv);omega
   refine ⟨λ _=>HK,λ h=>by simp at h,_,h.2,?_⟩;simp only[B5];refine .agg _ _ (by rcases HK with h2 | h2<;>simp<;>omega) λ i d f=>?_;rw[BD] at f;cases hx:((cs.drop off).take b.size)[i]? with
   | none=>rw[hx] at f;cases f
   | some x=>
     rw[hx] at f;cases f;rw[BM] at hx;split at hx
     . rename_i Dv;rw[BX] at hx;have:=l _ x hx;have e:(((row.toList.drop (o+off)).take b.size).toArray).getD i undef=row.getD (o+(off+i)) undef:=by
         rw[Bs,Bs];simp[BM,Dv,Nat.add_assoc]
       rw[e];exact .p this
     . cases hx
 | false=>
   rw[n] at h;simp only[BY,Cy] at h ⊢;cases f:cs[off]? with
   | none=>rw[f] at h;exact h.elim
   | some d=>
     rw[f] at h;exact ⟨λ h=>h.elim,λ _=>m off d f,.p d,h,.p (l off d f)⟩
end
end Go.Am
namespace Go.Am
open Go
section
variable {P:AK} {c:Ctx} {st:St} {a:Act} {w:AI} {F:Nat->Prop} {M:Nat->Mb}
theorem DT{h:Hp}{id:Nat}{o:AO}(b:get h id=some o):sg h id=some o.sg:=by simp[sg,b]
theorem Bcf{h:Hp}{id:Nat}(b:sg h id=some .box):∃o,get h id=some o/\o.sg= .box:=by
 unfold sg at b;cases e:get h id with
 | none=>rw[e] at b;cases b
 | some o=>rw[e] at b;exact ⟨o,rfl,Bf b⟩
theorem Bnd{h:Hp}{id sz n:Nat}(b:sg h id=some (.arr sz n)):(∃t es,get h id=some (.arr t sz es)/\es.length=n)∨(∃es,get h id=some (.Oh sz es)/\es.length=n)∨(∃s,get h id=some (.Ij s)/\s.sg= .arr sz n)∨(∃t es i c d,get h id=some (.Yo t sz es i c d)/\es.length=n):=by
 unfold sg at b;cases e:get h id with
 | none=>rw[e] at b;cases b
 | some o=>
   rw[e] at b;cases o<;>simp[AO.sg] at b
   . obtain ⟨rfl,h2⟩:=b;exact .inl ⟨_,_,rfl,h2⟩
   . obtain ⟨rfl,h2⟩:=b;exact .inr (.inl ⟨_,rfl,h2⟩)
   . exact .inr (.inr (.inl ⟨_,rfl,b⟩))
   . obtain ⟨rfl,h2⟩:=b;exact .inr (.inr (.inr ⟨_,_,_,_,_,rfl,h2⟩))
theorem HR.row(o:HR F w M st.hp){id sz:Nat}{es:Ag}(f:(∃t,get st.hp id=some (.arr t sz es))∨get st.hp id=some (.Oh sz es)):
   0<sz/\es.length<=(M id).cap/\(∀(i:Nat) e,es[i]?=some e->e.length=sz)/\((M id).cap≠0->∃row t b,w.heap[(M id).Fm]?=some (.cells row t b)/\row.size=(M id).cap*sz/\
       ∀(i:Nat) e (j:Nat) c,es[i]?=some e->e[j]?=some c->PR F w c (row.getD (i*sz+j) undef)):=by
 rcases f with ⟨t,f⟩ | f
 . obtain ⟨g,h2,_,k,l⟩:=o.obj id _ f;exact ⟨g,h2,k,λ n=>by obtain ⟨_,row,⟨b,m,_⟩,p⟩:=l n;exact ⟨row,t,b,m,p⟩⟩
 . obtain ⟨g,h2,k,l⟩:=o.obj id _ f;exact ⟨g,h2,k,λ n=>by obtain ⟨_,row,t,b,m⟩:=l n;exact ⟨row,t,b,m⟩⟩
theorem M7{i j n sz cap:Nat}(b:i<n)(h2:n<=cap)(e:j<sz):i*sz+j<cap*sz:=by
 have:(i+1)*sz<=cap*sz:=CA _ AQ;rw[B7] at this;omega
theorem ZQ(hr:HR F w M st.hp){t:AG}{d:D}{k:D->Prop}(h:Ah8 P st.hp t d k){v:AJ}(Y:DR F w M (sg st.hp) d v):
   ∃y v',k y/\DR F w M (sg st.hp) y v'/\(Instr.loadAt t v).run P w= .ok v' w:=by
 unfold Ah8 at h;cases ht:Dz P t with
 | none=>rw[ht] at h;simp at h
 | some ti=>
   rw[ht] at h;obtain ⟨i,u,z,Q,R,hz,rfl⟩:=De ht;cases d with
   | ptr id off=>
     simp only at h;cases g:get st.hp id with
     | none=>rw[g] at h;exact h.elim
     | some o=>
       rw[g] at h;cases o with
       | box cs ty=>
         cases Y with
         | ptr _ _ x=>
           obtain ⟨h1,row,e,h2,S,U⟩:=hr.obj id _ g;obtain ⟨Ti,H,y,K,r⟩:=S5 (F:=F) (w:=w) (M:=M) h (s:=sg st.hp) S (λ j d r=>(U.1 j d r).1);exact ⟨y,_,K,r,by simp[Instr.loadAt,Instr.sureAddr,H6 Q R h2 Ti H]⟩
       | arr _ _ _=>exact h.elim
       | Oh _ _=>exact h.elim
       | iter _ _=>exact h.elim
       | Ev _ _=>exact h.elim
       | Ij _=>exact h.elim
       | mp _=>exact h.elim
       | Fc _ _ _ _ _ _=>exact h.elim
       | Yo _ _ _ _ _ _=>exact h.elim
   | pe cs=>
     simp only at h;cases Y with
     | pe _ b off row e fr hF hh a1 hp=>
       obtain ⟨Ti,H,y,K,r⟩:=ZM (F:=F) (w:=w) (M:=M) h (s:=sg st.hp) off a1 hp;exact ⟨y,_,K,r,by simp only[Instr.loadAt,Instr.sureAddr,Sem.run_bind,Sem.run_pure,Result.andThen_ok];exact H6 Q R hh Ti H⟩
   | ea id j q N=>
     simp only at h;have key:∀(l:Nat) (f:Ag),((∃t,get st.hp id=some (.arr t l f))∨get st.hp id=some (.Oh l f))->sg st.hp id=some (.arr l f.length)->N=f.length->
         Vg ⟨i.size,i.bytes,TK.of u,M9 z⟩ (f.getD j []) q k->∃y v',k y/\DR F w M (sg st.hp) y v'/\(Instr.loadAt t v).run P w= .ok v' w:=by
       intro l f hg Lz hN ZU;cases Y with
       | ea _ _ _ _ Va n v x a0 _ h2=>
         rw[Lz] at x;simp only[Bo,Sg.arr.injEq] at x;obtain ⟨rfl,rfl⟩:=x;obtain ⟨rfl,Dv⟩:=h2 hN;obtain ⟨h1,S,U,h5⟩:=hr.row hg;obtain ⟨row,e,fr,h6,h7,h8⟩:=h5 AQ;have E:f[j]?=some (f.getD j []):=by simp[List.getD,Dv]
         have hlen:=U j _ E;obtain ⟨Ti,H,y,K,r⟩:=ZM (F:=F) (w:=w) (M:=M) ZU (s:=sg st.hp) (row:=row) (j*l)
           (λ q c V=>by rw[h7];exact M7 Dv S (by have:=(Bn.1 V).1;omega)) (λ q c V=>h8 j _ q c E V)
         exact ⟨y,_,K,r,by simp[Instr.loadAt,Instr.sureAddr,H6 Q R h6 Ti H]⟩
     cases g:get st.hp id with
     | none=>rw[g] at h;exact h.elim
     | some o=>
       rw[g] at h;cases o with
       | box cs ty=>exact h.elim
       | arr Z l f=>exact key l f (.inl ⟨Z,g⟩) (DT g) h.1 h.2
       | Oh l f=>exact key l f (.inr g) (DT g) h.1 h.2
       | iter _ _=>exact h.elim
       | Ev _ _=>exact h.elim
       | Ij _=>exact h.elim
       | mp _=>exact h.elim
       | Fc _ _ _ _ _ _=>exact h.elim
       | Yo Z l f i0 c0 d0=>
         have hx:RM F w M (sg st.hp) (M id) Z l f i0 c0 d0:=hr.obj id _ g;have Lz:=DT g;obtain ⟨row,⟨fr,h6,_⟩,h7,h8,h9,XB⟩:=hx.row;have Qn:0<(M id).cap:=by have:=hx.le;have:=hx.at_.1;omega
         have hN:N=f.length:=by
           by_cases hb:j=i0/\q=c0
           . exact (h.1 (by simpa using hb)).1.1
           . exact (h.2 (by simpa using hb)).1.1
         have B:(TK.of u).isAgg=false:=by
           by_cases hb:j=i0/\q=c0
           . exact (h.1 (by simpa using hb)).1.2
           . exact (h.2 (by simpa using hb)).1.2
         cases Y with
         | ea _ _ _ _ Va n v x a0 _ h2=>
           rw[Lz] at x;simp only[AO.sg,Bo,Sg.arr.injEq] at x;obtain ⟨rfl,rfl⟩:=x;obtain ⟨rfl,Dv⟩:=h2 hN;have E:f[j]?=some (f.getD j []):=by simp[List.getD,Dv]
           have hlen:=hx.wid j _ E;by_cases hb:j=i0/\q=c0
           . obtain ⟨rfl,rfl⟩:=hb;have Sb:j*l+q<row.size:=by rw[h7];exact M7 Dv hx.le hx.at_.2
             exact ⟨_,_,(h.1 AT).2,h9,by simp[Instr.loadAt,Instr.sureAddr,H6 Q R h6 (λ h=>by rw[B] at h;cases h) (λ _=>Sb),B]⟩
           . have ZU:=(h.2 (by simpa using hb)).2;unfold Vg at ZU;simp only[B,BY,Cy] at ZU;cases r:(f.getD j [])[q]? with
             | none=>rw[r] at ZU;exact ZU.elim
             | some d=>
               rw[r] at ZU;have hq:=(Bn.1 r).1;have Sb:j*l+q<row.size:=by rw[h7];exact M7 Dv hx.le AQ
               exact ⟨_,_,ZU,.p (h8 j _ q d E r hb),by simp[Instr.loadAt,Instr.sureAddr,H6 Q R h6 (λ h=>by rw[B] at h;cases h) (λ _=>Sb),B]⟩
   | R9 id j n=>
     simp only at h;cases g:get st.hp id with
     | none=>rw[g] at h;exact h.elim
     | some o=>
       rw[g] at h;cases o with
       | Fc Z e' l kk rows hole=>
         obtain ⟨⟨h1,h2,S⟩,K⟩:=h;cases Y with
         | R9 _ _ _ ZC m k2 b x hN H8 hl=>
           rw[DT g] at x;simp only[AO.sg,Bo,Sg.Fc.injEq] at x;obtain ⟨rfl,rfl,rfl⟩:=x;obtain ⟨rfl,V⟩:=hl h1;have hn:MV F w (M id) Z e' l rows hole:=hr.obj id _ g;obtain ⟨_,row,Ek,HK,D4⟩:=hn.outer V;have W:rows[j]?=some (rows.getD j []):=by simp[List.getD,show j<rows.length by omega]
           have a2:j<(M id).xs.length:=by rw[hn.xl];omega
           have I:(M id).xs[j]?=some ((M id).xs[j]):=Bp a2;obtain ⟨ad,U,h5⟩:=D4 j _ _ W I h2;have hA:=hn.rows j _ _ W I h2;have Sb:j<row.size:=by have:=hn.le;omega
           have T:(TK.of u).isAgg=false:=S;refine ⟨_,row.getD j undef,K,?_,by simp[Instr.loadAt,Instr.sureAddr,H6 Q R Ek (λ h=>by rw[T] at h;cases h) (λ _=>Sb),T]⟩;rw[U];exact .nr id j _ _ l rows.length kk _ (by rw[DT g];rfl) (Bk _) ⟨_,_,rfl⟩ (λ _=>⟨_,I,hA.2.1,ad,rfl,h5⟩)
       | _=>exact h.elim
   | _=>simp at h
theorem Ab1{α:Type}[BEq α][LawfulBEq α][DecidableEq α](a b:α):(a==b)=decide (a=b):=by rw[Bool.eq_iff_iff];simp
theorem Bka{α:Type}[BEq α][LawfulBEq α][DecidableEq α](a b:α):(a != b)=!decide (a=b):=by rw[Bool.eq_iff_iff];simp
theorem Qb(l:Ad):(⟨l.toArray⟩:ByteArray).size=l.length:=by simp[ByteArray.size]
theorem Ark(a b:Ad):((⟨a.toArray⟩:ByteArray)++(⟨b.toArray⟩:ByteArray))=⟨(a++b).toArray⟩:=by
 apply ByteArray.ext;simp
theorem Ats{j:BinOp}{x y:D}{k:D->Prop}(h:Bkc j x y k){s:Nat->Option Sg}{e f:AJ}(hx:DR F w M s x e)(b:DR F w M s y f)(t:AG)(n o:AM):
   ∃d v,k d/\DR F w M s d v/\(do eqGuard j t n o e f;binOp j t e f:Sem Value).run P w= .ok v w:=by
 have Bre:∀{g i:IntKind} {p q:Int},x= .p (.int g p)->y= .p (.int i q)->e= .int g p/\f= .int i q:=by
   rintro g i p q rfl rfl;cases hx with | p hx=>cases hx;cases b with | p b=>cases b;exact ⟨rfl,rfl⟩
 have By6:∀{p q:Ad},x= .p (.str p)->y= .p (.str q)->e= .string ⟨p.toArray⟩/\f= .string ⟨q.toArray⟩:=by
   rintro p q rfl rfl;cases hx with | p hx=>cases hx;cases b with | p b=>cases b;exact ⟨rfl,rfl⟩
 unfold Bkc at h;split at h;all_goals first
   | exact h.elim
   | (obtain ⟨rfl,h⟩:=h
      obtain ⟨rfl,rfl⟩:=Bre rfl rfl;first
        | (refine ⟨_,_,h,.p (.int _ _),?_⟩;first | (simp[eqGuard,binOp,Op.intArith];done) | (simp[eqGuard,binOp,Op.intBits];done))
        | exact ⟨_,_,h.2,.p (.int _ _),by simp[eqGuard,binOp,Op.intDiv,h.1]⟩
        | (refine ⟨_,_,h,.p (.bool _),?_⟩;first | (simp[eqGuard,binOp,Op.intCmp];done) | (simp[eqGuard,binOp,Op.intCmp,Ab1,Bka];done)))
   | (obtain ⟨l,h⟩:=h
      obtain ⟨rfl,rfl⟩:=Bre rfl rfl;exact ⟨_,_,h,.p (.int _ _),by simp[eqGuard,binOp,Op.shift,show ¬_<(0:Int) from Int.not_lt.2 l]⟩)
   | (obtain ⟨rfl,rfl⟩:=By6 rfl rfl
      first
        | (refine ⟨_,_,h,.p (.bool _),?_⟩;simp[eqGuard,binOp,Op.stringOp,Ab1];done)
        | (refine ⟨_,_,h.2,.p (.str _),?_⟩
           have m:=h.1;simp only[maxLen] at m;simp only[eqGuard,binOp,Op.stringOp,Qb,Sem.run_bind];simp[Ark,IntKind.max,IntKind.bits,IntKind.signed];omega))
theorem TK.of_bool{u:AN}(h:TK.of u= .bool):u= .bool:=by cases u<;>simp_all [TK.of]
theorem Avy{b:UnOp}{x:D}{k:D->Prop}(h:unD b x k){s:Nat->Option Sg}{e:AJ}(hx:DR F w M s x e):
   ∃d v,k d/\DR F w M s d v/\(Op.unary b e).run P w= .ok v w:=by
 unfold unD at h;split at h
 . cases hx with | p hx=>cases hx;exact ⟨_,_,h,.p (.bool _),by simp[Op.unary]⟩
 . cases hx with | p hx=>cases hx;exact ⟨_,_,h,.p (.int _ _),by simp[Op.unary,Op.intArith]⟩
 . exact h.elim
theorem An8{x y z:D}{k:D->Prop}(h:An9 x y z k){s:Nat->Option Sg}{i j l:AJ}(hx:DR F w M s x i)(b:DR F w M s y j)(e:DR F w M s z l):
   ∃d v,k d/\DR F w M s d v/\(do pure (.value (if <-asBool i then j else l)):Sem Next).run P w= .ok (.value v) w:=by
 unfold An9 at h;split at h
 . rename_i t m n;cases hx with | p hx=>cases hx;cases b with | p b=>cases b;cases e with | p e=>cases e;refine ⟨_,.bool (if t then m else n),h,.p (.bool _),?_⟩;cases t<;>simp[asBool]
 . cases hx with | p hx=>
     cases hx;rename_i t _;by_cases g:t=true
     . subst g;exact ⟨_,_,h.1 rfl,b,by simp[asBool]⟩
     . have f:t=false:=by simpa using g
       subst f;exact ⟨_,_,h.2 rfl,e,by simp[asBool]⟩
 . exact h.elim
theorem Apv:∀{es:Ag} {l:Ad},Aam es=some l->l.length=es.length
 | [],l,h=>by simp[Aam] at h;subst h;rfl
 | y::r,l,h=>by
   unfold Aam at h;split at h
   . rename_i b;cases b
   . rename_i n g b;cases b;cases e:Aam r with
     | none=>rw[e] at h;cases h
     | some f=>rw[e] at h;cases h;simp[Apv e]
   . cases h
theorem Apw:∀{es:Ag} {l:Ad},Aam es=some l->∀(j:Nat),j<es.length->∃n:Int,es[j]?=some [.int .u8 n]/\l[j]?=some (UInt8.ofNat n.toNat)
 | [],l,h,j,e=>by simp at e
 | y::r,l,h,j,e=>by
   unfold Aam at h;split at h
   . rename_i b;cases b
   . rename_i n k b;cases b;cases f:Aam r with
     | none=>rw[f] at h;cases h
     | some i=>
       rw[f] at h;cases h;cases j with
       | zero=>exact ⟨n,rfl,rfl⟩
       | succ j=>
         obtain ⟨m,g,h2⟩:=Apw f j (by simpa using e);exact ⟨m,by simpa using g,by simpa using h2⟩
   . cases h
abbrev Aa:=List Int
theorem Aof{n:Nat}{p:Nat->Int->Prop}(h:∀j,j<n->∃x,p j x):∃l:Aa,l.length=n/\∀j (b:j<l.length),p j l[j]:=by
 induction n with
 | zero=>exact ⟨[],rfl,λ j b=>by simp at b⟩
 | succ n g=>
   obtain ⟨l,f,h2⟩:=g λ j b=>h j AQ;obtain ⟨x,hx⟩:=h n AQ;refine ⟨l++[x],by simp[f],λ j b=>?_⟩;by_cases e:j<l.length
   . rw[List.getElem_append_left e];exact h2 j e
   . have:j=n:=by simp at b;omega
     subst this;rw[List.getElem_append_right AQ]
     simpa [f] using hx
theorem Aaj(b:Aa):b.foldl (λ r n=>r.push (UInt8.ofNat n.toNat)) ByteArray.empty=⟨(b.map λ n=>UInt8.ofNat n.toNat).toArray⟩:=by
 have key:∀(b:Aa) (r:ByteArray),b.foldl (λ r n=>r.push (UInt8.ofNat n.toNat)) r=⟨r.data++(b.map λ n=>UInt8.ofNat n.toNat).toArray⟩:=by
   intro b
   induction b with
   | nil=>intro r;simp
   | cons n b f=>intro r;simp only[List.foldl_cons,f];simp[ByteArray.push]
 rw[key];have e:ByteArray.empty.data=#[]:=rfl;rw[e];simp
theorem Aq3{H E:AG}{x:D}{k:D->Prop}(h:Aq4 P H E x k){s:Nat->Option Sg}{Z:AJ}(hx:DR F w M s x Z):
   ∃d v,k d/\DR F w M s d v/\(convert H E Z).run P w= .ok v w:=by
 unfold Aq4 at h;split at h
 . rename_i W _ _ kd _ kx n q h2;obtain ⟨U,R,_,_,H3,_,_⟩:=De q;obtain ⟨V,Y,_,_,MN,_,i⟩:=De h2;simp only[TI.mk.injEq] at i;have Bnx:=TK.of_int i.2.2.1.symm;subst Bnx;cases hx with | p hx=>
     cases hx;refine ⟨_,_,h,.p (.int _ _),?_⟩;simp only[convert,Sem.run_bind,run_underlying H3,run_underlying MN,Result.andThen_ok,Conv.intToInt];rfl
 . rename_i W _ _ _ l q h2;obtain ⟨U,R,_,_,H3,_,_⟩:=De q;obtain ⟨V,Y,_,_,MN,_,i⟩:=De h2;simp only[TI.mk.injEq] at i;have Bnx:=TK.of_string i.2.2.1.symm;subst Bnx;cases hx with | p hx=>
     cases hx;refine ⟨_,_,h,.p (.str _),?_⟩;simp only[convert,Sem.run_bind,run_underlying H3,run_underlying MN,Result.andThen_ok];cases R<;>simp
 . rename_i W e _ _ _ _ o q h2;split at h
   case h_2=>exact h.elim
   rename_i b3 z3 l h3 z;obtain ⟨U,R,_,_,H3,_,S⟩:=De q;obtain ⟨V,Y,_,_,MN,_,i⟩:=De h2;obtain ⟨i3,u3,_,_,u,_,T⟩:=De h3;simp only[TI.mk.injEq] at S i T;obtain rfl:=TK.of_slice S.2.2.1.symm;obtain rfl:=TK.of_string i.2.2.1.symm;obtain rfl:=TK.of_int T.2.2.1.symm;refine ⟨_,.string ⟨l.toArray⟩,h,.p (.str l),?_⟩;cases hx with | p hx=>
     have hlen:=Apv z;cases hx with
     | sl0 m cap=>
       obtain rfl:l=[]:=by simp[Aam] at z;exact z
       rw[run_convert_bytes_string w H E e m 0 cap H3 u MN];cases m with
       | none=>simp[Conv.bytesToString];rfl
       | some m=>
         have:=run_bytesToString (P:=P) w m 0 cap [] (run_loadCells_list (P:=P) w m [] (λ j v f=>by simp at f));rw[this];rfl
     | sl _ b off cap sz row t fr hF hh hc hs hi hp=>
       have Ad3:∀(j:Nat) (f:j<o.length),∃n:Int,w.cell? ((⟨b,off,none⟩:Addr).add j)=some (.int .u8 n)/\l[j]?=some (UInt8.ofNat n.toNat):=by
         intro j f;obtain ⟨n,I,h6⟩:=Apw z j f;have HK:sz=1:=(hs j _ I).symm;subst HK;have K:=hi j _ 0 (.int .u8 n) I rfl;have B:=hp j _ 0 (.int .u8 n) I rfl;rw[Nat.mul_one,B9] at K B;refine ⟨n,?_,h6⟩;rw[Addr.add_lit];have PV:w.cell? ⟨b,off+j,none⟩=row[off+j]?:=by simp[World.cell?,hh]
         rw[PV,BW K];rw[Bs,BW K,BP] at B;generalize row[off+j]=y at B;cases B;rfl
       have Ue:∃g:Aa,g.length=o.length/\∀j (f:j<g.length),w.cell? ((⟨b,off,none⟩:Addr).add j)=some (.int .u8 g[j])/\l[j]?=some (UInt8.ofNat g[j].toNat):=
         Aof (n:=o.length) (p:=λ j n=>w.cell? ((⟨b,off,none⟩:Addr).add j)=some (.int .u8 n)/\l[j]?=some (UInt8.ofNat n.toNat)) Ad3
       obtain ⟨g,ZV,r⟩:=Ue;rw[run_convert_bytes_string w H E e _ o.length cap H3 u MN];have N:=run_loadCells_list (P:=P) w ⟨b,off,none⟩ (g.map (Value.int .u8)) (λ j v f=>by
         have I4:j<g.length:=by simpa using (List.getElem?_eq_some_iff.1 f).1
         rw[(r j I4).1];simp[Bp I4] at f;rw[<-f])
       simp only[Ct] at N;rw[ZV] at N;have:=run_bytesToString (P:=P) w ⟨b,off,none⟩ o.length cap g N;rw[this];have Q:g.map (λ n=>UInt8.ofNat n.toNat)=l:=by
         refine List.ext_getElem? λ j=>?_;by_cases f:j<g.length
         . rw[BD,Bp f,(r j f).2];rfl
         . rw[List.getElem?_eq_none (by simpa using f),List.getElem?_eq_none AQ]
       rw[Aaj,Q]
 . exact h.elim
theorem YX{t:AG}{x:D}{f:Nat}{y:Hp}{k:D->Prop}(h:Oj P t x f y k){o:AJ}(hx:DR F w M (sg y) x o):
   ∃d v,k d/\DR F w M (sg y) d v/\(Instr.fieldAt t o f).run P w= .ok v w:=by
 unfold Oj at h;cases E:Dz P t with
 | none=>rw[E] at h;simp at h
 | some Z=>
   obtain ⟨i,u,z,V,S,W,rfl⟩:=De E;rw[E] at h;(try simp only at h);split at h
   case h_2=>exact h.elim
   rename_i U z' I;simp only[Bo,TI.mk.injEq] at I;obtain ⟨gs,rfl,rfl⟩:=TK.of_struct I.2.2.1;rw[BD] at h;cases p:gs.toList[f]? with
   | none=>rw[p] at h;simp at h
   | some g=>
     rw[p] at h;simp only[Ci] at h;have r:gs[f]?=some g:=by simpa using p
     cases Yl:Dz P g.type with
     | none=>rw[Yl] at h;exact h.elim
     | some tj=>
       rw[Yl] at h;obtain ⟨Y,u2,z2,H8,_,_,rfl⟩:=De Yl;obtain ⟨EG,h⟩:=h;simp only at EG;have run:∀b off,o= .pointer (some ⟨b,off,none⟩)->(Instr.fieldAt t o f).run P w= .ok (.pointer (some ⟨b,off+g.offset,none⟩)) w:=by
         rintro b off rfl;simp[Instr.fieldAt,run_underlying S,r,Instr.sureAddr,fieldPlace,Fb H8,EG,Addr.add_lit]
       cases x with
       | ptr id off=>
         cases hx with
         | ptr _ _ m=>exact ⟨_,_,h,.ptr id (off+g.offset) m,run _ _ rfl⟩
       | pe cs=>
         cases hx with
         | pe _ b off row e K Q R s B=>
           refine ⟨_,_,h,.pe _ b (off+g.offset) row e K Q R (λ j c l=>?_) (λ j c l=>?_),run _ _ rfl⟩
           . rw[BX] at l;have:=s _ c l;omega
           . rw[BX] at l;have:=B _ c l;rwa[Nat.add_assoc]
       | ea id j q N=>
         obtain ⟨H,h⟩:=h;cases hx with
         | ea _ _ _ _ T n v m hle _ h2=>
           rw[m] at H;obtain ⟨rfl,Dv⟩:=h2 H;exact ⟨_,_,h,.ea id j (q+g.offset) N T n _ m hle ⟨_,rfl⟩ (λ _=>⟨by rw[Nat.add_assoc],Dv⟩),run _ _ rfl⟩
       | _=>exact h.elim
theorem T6{t:AG}{i:AP}{u:AN}(b:P.info? t=some i)(f:P.underlying t=some u){cs:Array Value}{off:Nat}
   (UJ:(TK.of u).isAgg=false->off<cs.size):
   (part t cs off).run P w= .ok (if (TK.of u).isAgg then .agg ((cs.toList.drop off).take i.size).toArray else cs.getD off undef) w:=by
 unfold part;rw[Sem.run_bind,Aby f w];simp only[Result.andThen_ok];cases e:(TK.of u).isAgg with
 | false=>
   have Dv:=UJ e;simp[Dv]
 | true=>
   simp only[B5,Fb b w,Sem.run_bind,Result.andThen_ok,Sem.run_pure]
   congr 2
   apply Array.ext';simp[List.drop_take]
theorem Bgy{g:List FK}{X Y:Ai}{b:Bool}(h:TQ (.int::g) X Y=some b):∃k a c i j f,X= .p (.int k a)::i/\Y= .p (.int k c)::j/\TQ g i j=some f/\b=(decide (a=c)&&f):=by
 unfold TQ at h;split at h<;>try (first | (cases h;done) | (rename_i e _ _;cases e;done) | (rename_i e;cases e;done))
 all_goals first
   | (rename_i e
      injection e with o l
      subst l;split at h
      . rename_i m;subst m;obtain ⟨f,n,rfl⟩:=Cu.1 h;exact ⟨_,_,_,_,_,f,rfl,rfl,n,rfl⟩
      . cases h)
   | skip
theorem Baq{g:List FK}{X Y:Ai}{b:Bool}(h:TQ (.bool::g) X Y=some b):∃a c i j f,X= .p (.bool a)::i/\Y= .p (.bool c)::j/\TQ g i j=some f/\b=((a==c)&&f):=by
 unfold TQ at h;split at h<;>try (first | (cases h;done) | (rename_i e _ _;cases e;done) | (rename_i e;cases e;done))
 all_goals first
   | (rename_i e
      injection e with m k
      subst k;obtain ⟨f,l,rfl⟩:=Cu.1 h;exact ⟨_,_,_,_,f,rfl,rfl,l,rfl⟩)
   | skip
theorem Aq5{g:List FK}{X Y:Ai}{b:Bool}(h:TQ (.str::g) X Y=some b):∃a c i j f,X= .p (.str a)::i/\Y= .p (.str c)::j/\TQ g i j=some f/\b=(decide (a=c)&&f):=by
 unfold TQ at h;split at h<;>try (first | (cases h;done) | (rename_i e _ _;cases e;done) | (rename_i e;cases e;done))
 all_goals first
   | (rename_i e
      injection e with m k
      subst k;obtain ⟨f,l,rfl⟩:=Cu.1 h;exact ⟨_,_,_,_,f,rfl,rfl,l,rfl⟩)
   | skip
theorem Tt{s:Nat->Option Sg}{m n:Array Value}{Y Z:Ai}(a4:m.size=Y.length)(a5:n.size=Z.length)(hx:∀(i:Nat) c,Y[i]?=some c->DR F w M s c (m.getD i undef))(hy:∀(i:Nat) c,Z[i]?=some c->DR F w M s c (n.getD i undef))(d:Nat):
   ∀(o:List Field) (i:Nat) (ks:List FK) (b:Bool),Oi P i o=some ks->TQ ks (Y.drop i) (Z.drop i)=some b->(Op.eqFields (d+1) m n o).run P w= .ok b w:=by
 intro o
 induction o with
 | nil=>
   intro i ks b g Q;simp only[Oi,Bo] at g;subst g;cases I3:Y.drop i<;>cases Yj:Z.drop i<;>rw[I3,Yj] at Q<;>simp[TQ] at Q;subst Q;rfl
 | cons f o ih=>
   intro i ks b g Q;simp only[Oi] at g;split at g
   case isFalse=>cases g
   rename_i hn;obtain ⟨hn,Bo6⟩:=hn;have I:∀{R:Ai} {q:D} {r:Ai},R.drop i=q::r->R[i]?=some q/\i<R.length/\R.drop (i+1)=r:=λ {R q r} h=>by
     have H:i<R.length:=by
       by_cases h2:i<R.length
       . exact h2
       . rw[List.drop_eq_nil_of_le AQ] at h;cases h
     rw[List.drop_eq_getElem_cons H] at h;cases h;exact ⟨AT,H,rfl⟩
   have step:∀{u:AN} {inf:AP} (j:P.underlying f.type=some u) (t:P.info? f.type=some inf) (ha:(TK.of u).isAgg=false) {U k:Bool} {p q:AJ},
       m.getD i undef=p->n.getD i undef=q->i<m.size->i<n.size->(Op.equalIn (d+1) f.type p q).run P w= .ok U w->(U=true->(Op.eqFields (d+1) m n o).run P w= .ok k w)->
       (Op.eqFields (d+1) m n (f::o)).run P w= .ok (U&&k) w:=by
     intro u inf j t ha U k p q hp hq a0 a3 he hr;simp only[Op.eqFields,hn,ne_eq,not_false_eq_true,B5,Sem.run_bind];rw[T6 (w:=w) t j (λ _=>AQ)];simp only[ha,Bo6,hp,Result.andThen_ok,BY,Cy];rw[T6 (w:=w) t j (λ _=>AQ)];simp only[ha,hq,Result.andThen_ok,he,BY,Cy];cases U
     . simp
     . simp[hr rfl]
   have both:∀(l:List FK) {x y:D} {S T:Ai} {k:Bool},Y.drop i=x::S->Z.drop i=y::T->Oi P (i+1) o=some l->TQ l S T=some k->(Op.eqFields (d+1) m n o).run P w= .ok k w:=by
     intro l x y S T k I3 Yj hl Xx;obtain ⟨_,_,rx⟩:=I I3;obtain ⟨_,_,ry⟩:=I Yj;exact ih (i+1) l k hl (by rw[rx,ry];exact Xx)
   split at g
   . rename_i l H h2;simp only[Bo] at g;subst g;obtain ⟨inf,u,z,t,j,_,e⟩:=De H;simp only[TI.mk.injEq] at e;obtain rfl:=TK.of_int e.2.2.1.symm;obtain ⟨k1,K,N,S,T,k,I3,Yj,Xx,rfl⟩:=Bgy Q;obtain ⟨V,lx,_⟩:=I I3;obtain ⟨W,ly,_⟩:=I Yj;have B:=hx i _ V;have E:=hy i _ W;refine step j t rfl (p:= .int k1 K) (q:= .int k1 N) ?_ ?_ AQ AQ ?_ (λ _=>both l I3 Yj h2 Xx)
     . generalize m.getD i undef=v at B;cases B with | p h=>cases h;rfl
     . generalize n.getD i undef=v at E;cases E with | p h=>cases h;rfl
     . rw[run_equalIn_int w d f.type k1 _ K N j,Ab1]
   . rename_i l H h2;simp only[Bo] at g;subst g;obtain ⟨inf,u,z,t,j,_,e⟩:=De H;simp only[TI.mk.injEq] at e;obtain rfl:=TK.of_bool e.2.2.1.symm;obtain ⟨K,N,S,T,k,I3,Yj,Xx,rfl⟩:=Baq Q;obtain ⟨V,lx,_⟩:=I I3;obtain ⟨W,ly,_⟩:=I Yj;have B:=hx i _ V;have E:=hy i _ W;refine step j t rfl (p:= .bool K) (q:= .bool N) ?_ ?_ AQ AQ ?_ (λ _=>both l I3 Yj h2 Xx)
     . generalize m.getD i undef=v at B;cases B with | p h=>cases h;rfl
     . generalize n.getD i undef=v at E;cases E with | p h=>cases h;rfl
     . exact run_equalIn_bool' w d f.type K N j
   . rename_i l H h2;simp only[Bo] at g;subst g;obtain ⟨inf,u,z,t,j,_,e⟩:=De H;simp only[TI.mk.injEq] at e;obtain rfl:=TK.of_string e.2.2.1.symm;obtain ⟨K,N,S,T,k,I3,Yj,Xx,rfl⟩:=Aq5 Q;obtain ⟨V,lx,_⟩:=I I3;obtain ⟨W,ly,_⟩:=I Yj;have B:=hx i _ V;have E:=hy i _ W;refine step j t rfl (p:= .string ⟨K.toArray⟩) (q:= .string ⟨N.toArray⟩) ?_ ?_ AQ AQ ?_ (λ _=>both l I3 Yj h2 Xx)
     . generalize m.getD i undef=v at B;cases B with | p h=>cases h;rfl
     . generalize n.getD i undef=v at E;cases E with | p h=>cases h;rfl
     . rw[run_equalIn_string w d f.type _ _ j,ByteArray.toList_eq,ByteArray.toList_eq,Ab1]
   . cases g
def Aho(e:AG)(i:Nat):Field:={name:= "x",type:=e,offset:=i,embedded:=false,tag:= "",pkgPath:= "",byteOffset:=0}
def Adj(e:AG)(s n:Nat):List Field:=(List.range' s n).map (Aho e)
theorem AV{p:Prop}(h:p:=by decide):p:=h
theorem run_equalIn_array{P:AK}(w:AI)(d:Nat)(t e:AG)(n:Nat)(g j:Array Value)(s:P.underlying t=some (.array n e)){i:AP}(p:P.info? e=some i)(q:i.size=1):
   (Op.equalIn (d+1) t (.agg g) (.agg j)).run P w=(Op.eqFields d g j (Adj e 0 n)).run P w:=by
 simp only[Op.equalIn,Sem.run_bind,run_underlying s,Result.andThen_ok,Fb p,q,Nat.mul_one];rw[Std.Legacy.Range.forIn_eq_forIn_range'];simp only[Std.Legacy.Range.size,Nat.sub_zero,Nat.add_sub_cancel,Nat.div_one];unfold Adj;generalize List.range' 0 n=k
 induction k generalizing w with
 | nil=>simp[Op.eqFields]
 | cons f k u=>
   simp only[List.forIn_cons,B4,Op.eqFields,Aho,Sem.run_bind,Sem.run_ite];rw[if_pos AV];generalize (part e g f).run P w=r1;cases r1 with
   | ok a l=>
     simp only[Result.andThen_ok];generalize (part e j f).run P l=r2;cases r2 with
     | ok b m=>
       simp only[Result.andThen_ok];generalize (Op.equalIn d e a b).run P m=r3;cases r3 with
       | ok r o=>
         cases r
         . simp only[Result.andThen_ok,Bool.not_false,B5,Sem.run_pure]
         . simp only[Result.andThen_ok,Bool.not_true,BY,Cy,Sem.run_pure];exact u o
       | halt x o=>simp[Result.andThen]
     | halt x m=>simp[Result.andThen]
   | halt x l=>simp[Result.andThen]
theorem Adc{P:AK}{e:AG}{k:FK}(h:∀s,Oi P s [Aho e s]=some [k]):∀n s,Oi P s (Adj e s n)=some (List.replicate n k)
 | 0,s=>rfl
 | n+1,s=>by
   have b:=h s;have h2:=Adc h n (s+1);have f:Adj e s (n+1)=Aho e s::Adj e (s+1) n:=by simp[Adj,List.range'_succ]
   rw[f];simp only[Oi] at b ⊢;rw[h2];split at b
   case isFalse=>cases b
   rename_i g;rw[if_pos g];split at b<;>simp_all [List.replicate_succ]
theorem Asd{P:AK}{e:AG}{k:FK}(h:Aur P e=some k):(∃i,P.info? e=some i/\i.size=1)/\∀s,Oi P s [Aho e s]=some [k]:=by
 unfold Aur at h;split at h
 case h_4=>cases h
 all_goals
   rename_i f;obtain ⟨i,u,z,g,j,l,b⟩:=De f;simp only[TI.mk.injEq] at b;refine ⟨⟨i,g,b.1.symm⟩,λ s=>?_⟩;simp only[Bo] at h;subst h;simp[Oi,Aho,f]
theorem Z7{s:Nat->Option Sg}{z B:AJ}{t:AG}{E H:Ai}{b:Bool}(h:Adn P t E H=some b)(hx:DR F w M s (.agg E) z)(y:DR F w M s (.agg H) B):
   P.eqGuardType P.depth t=false/\∃g j,z= .agg g/\B= .agg j/\(Op.equalIn 10000 t (.agg g) (.agg j)).run P w= .ok b w:=by
 unfold Adn Bef at h;obtain ⟨N,f,h2⟩:=Option.bind_eq_some_iff.1 h;split at f
 case isFalse=>cases f
 rename_i o;split at f
 case h_3=>cases f
 case h_2=>
   rename_i n e m;cases u:Aur P e with
   | none=>rw[u] at f;cases f
   | some Q=>
     rw[u] at f;simp only[Ci,Bo] at f;subst f;obtain ⟨⟨i,I,K⟩,r⟩:=Asd u;cases hx with | agg _ g k p=>
     cases y with | agg _ j l q=>
     refine ⟨o.1,g,j,rfl,rfl,?_⟩;rw[run_equalIn_array w 9999 t e n g j m I K];exact Tt k l p q 9998 (Adj e 0 n) 0 _ b (Adc r n 0) (by simpa using h2)
 rename_i v m;cases hx with | agg _ g k p=>
 cases y with | agg _ j l q=>
 refine ⟨o.1,g,j,rfl,rfl,?_⟩;have x:P.fieldsOf t=v:=by simp[Program.fieldsOf,m]
 rw[run_equalIn_struct w 9999 t g j (by rw[x];exact m) o.2,x];exact Tt k l p q 9998 v.toList 0 N b f (by simpa using h2)
theorem Aqh{N:BinOp}{x y:D}{k:D->Prop}{t:AG}(h:TU P N t x y k){s:Nat->Option Sg}{R S:AJ}(hx:DR F w M s x R)(f:DR F w M s y S)(u B:AM):
   ∃d v,k d/\DR F w M s d v/\(do eqGuard N t u B R S;binOp N t R S:Sem Value).run P w= .ok v w:=by
 unfold TU at h;split at h
 . rename_i p q;split at h
   . rename_i j;obtain ⟨_,Q,_,_,H3,_,i⟩:=De j;simp only[TI.mk.injEq] at i;obtain rfl:=TK.of_bool i.2.2.1.symm;cases hx with | p hx=>cases hx;cases f with | p f=>
     cases f;have g:(Op.equal t (.bool p) (.bool q)).run P w= .ok (p==q) w:=run_equalIn_bool' w _ t p q H3;exact ⟨_,_,h,.p (.bool _),by simp[eqGuard,binOp,g]⟩
   . exact h.elim
 . rename_i p q;split at h
   . rename_i j;obtain ⟨_,Q,_,_,H3,_,i⟩:=De j;simp only[TI.mk.injEq] at i;obtain rfl:=TK.of_bool i.2.2.1.symm;cases hx with | p hx=>cases hx;cases f with | p f=>
     cases f;have g:(Op.equal t (.bool p) (.bool q)).run P w= .ok (p==q) w:=run_equalIn_bool' w _ t p q H3;exact ⟨_,_,h,.p (.bool _),by simp[eqGuard,binOp,g]⟩
   . exact h.elim
 . rename_i U V;split at h
   . rename_i b g;obtain ⟨E,n,o,rfl,rfl,K⟩:=Z7 g hx f;refine ⟨_,_,h,.p (.bool _),?_⟩;rw[Sem.run_bind,run_eqGuard_agg w .eql t u B n o E,Result.andThen_ok,run_eql_struct w t n o,K];rfl
   . exact h.elim
 . rename_i U V;split at h
   . rename_i b g;obtain ⟨E,n,o,rfl,rfl,K⟩:=Z7 g hx f;refine ⟨_,_,h,.p (.bool _),?_⟩;rw[Sem.run_bind,run_eqGuard_agg w .neq t u B n o E,Result.andThen_ok,run_neq_struct w t n o,K];rfl
   . exact h.elim
 . rename_i l;split at h
   . rename_i e z j;obtain ⟨EG,h⟩:=h;obtain ⟨_,Q,_,_,H3,_,i⟩:=De j;simp only[TI.mk.injEq] at i;obtain rfl:=TK.of_slice i.2.2.1.symm;cases f with | cl _ T f H=>
     obtain rfl:=H rfl;cases hx with | p hx=>
     cases hx with
     | sl0 _ _=>exact (EG rfl).elim
     | sl _ b off cap sz row t2 W Y hh Z hs hi hp=>
       have g:=Lib.run_eql_slice_nil w t _ (some ⟨b,off,none⟩) l.length cap 0 0 H3;exact ⟨_,_,h,.p (.bool _),by simpa [eqGuard] using g⟩
   . exact h.elim
 . rename_i l;split at h
   . rename_i e z j;obtain ⟨_,Q,_,_,H3,_,i⟩:=De j;simp only[TI.mk.injEq] at i;obtain rfl:=TK.of_slice i.2.2.1.symm;cases f with | cl _ T f H=>
     obtain rfl:=H rfl;cases hx with | cl _ m hx I=>
     have g:=Lib.run_eql_slice_nil w t _ m l.length l.length 0 0 H3;have hb:m.isNone=l.isEmpty:=by
       cases l with
       | nil=>rw[I rfl];rfl
       | cons x r=>cases hx;rfl
     rw[hb] at g;exact ⟨_,_,h,.p (.bool _),by simpa [eqGuard] using g⟩
   . exact h.elim
 . exact Ats h hx f t u B
theorem Aks{t:AG}{x:D}{f:Nat}{k:D->Prop}(h:Adh P t x f k){s:Nat->Option Sg}{m:AJ}(hx:DR F w M s x m):
   ∃d v,k d/\DR F w M s d v/\(Instr.field t m f).run P w= .ok v w:=by
 unfold Adh at h;cases g:Dz P t with
 | none=>rw[g] at h;simp at h
 | some K=>
   obtain ⟨i,u,z,E,r,H,rfl⟩:=De g;rw[g] at h;(try simp only at h);split at h
   case h_2=>exact h.elim
   rename_i y S l;simp only[Bo,TI.mk.injEq] at l;obtain ⟨gs,rfl,rfl⟩:=TK.of_struct l.2.2.1;rw[BD] at h;cases b:gs.toList[f]? with
   | none=>rw[b] at h;simp at h
   | some j=>
     rw[b] at h;simp only[Ci] at h;have e:gs[f]?=some j:=by simpa using b
     cases x with
     | agg cs=>
       simp only at h;cases Yl:Dz P j.type with
       | none=>rw[Yl] at h;exact h.elim
       | some N=>
         rw[Yl] at h;obtain ⟨I,Q,T,H8,MN,_,rfl⟩:=De Yl;cases hx with
         | agg _ R q n=>
           obtain ⟨B,h2,d,p,o⟩:=S5 (F:=F) (w:=w) (M:=M) h (s:=s) q n;exact ⟨d,_,p,o,by simp only[Instr.field,Sem.run_bind,run_underlying r,Result.andThen_ok,e,asAgg,Sem.run_pure];exact T6 H8 MN h2⟩
     | _=>simp at h
theorem Akj{t:AG}{x y:D}{k:D->Prop}(h:Acs P t x y k){s:Nat->Option Sg}{o q:AJ}(hx:DR F w M s x o)(f:DR F w M s y q):
   ∃d v,k d/\DR F w M s d v/\(Instr.index t o q).run P w= .ok v w:=by
 unfold Acs at h;split at h
 . rename_i _ _ _ l I n j;obtain ⟨H,K,_,_,H3,_,g⟩:=De j;simp only[TI.mk.injEq] at g;have b:=TK.of_string g.2.2.1.symm;subst b;cases hx with | p hx=>
     cases hx;cases f with | p f=>
       cases f;obtain ⟨⟨i,h2⟩,h⟩:=h;have Dv:n.toNat<l.length:=AQ;refine ⟨_,.int .u8 (l.getD n.toNat 0).toNat,h,.p (.int _ _),?_⟩;have hb:(⟨l.toArray⟩:ByteArray)[n.toNat]?=some (l.getD n.toNat 0):=by
         rw[ByteArray.getElem?_lt' _ _ (by simpa [ByteArray.size] using Dv)];simp[List.getD,Dv];rfl
       simp only[Instr.index,asIntOf,Sem.run_bind,Sem.run_pure,run_underlying H3,Result.andThen_ok,i,B5,hb]
 . rename_i _ _ _ m e _ cs I n j;obtain ⟨H,K,_,_,H3,_,g⟩:=De j;simp only[TI.mk.injEq] at g;have b:=TK.of_array g.2.2.1.symm;subst b;cases Yl:Dz P e with
   | none=>rw[Yl] at h;exact h.elim
   | some R=>
     rw[Yl] at h;obtain ⟨Q,S,U,H8,MN,_,rfl⟩:=De Yl;obtain ⟨⟨i,h2⟩,h⟩:=h;cases hx with
     | agg _ T E u=>
       cases f with | p f=>
         cases f;obtain ⟨N,r,d,B,z⟩:=S5 (F:=F) (w:=w) (M:=M) h (s:=s) E u;exact ⟨d,_,B,z,by simp only[Instr.index,asIntOf,Sem.run_bind,Sem.run_pure,run_underlying H3,Result.andThen_ok,i,h2,and_self,B5,Fb H8 w];exact T6 H8 MN r⟩
 . exact h.elim
theorem Adm{x:D}{i:Nat}{k:D->Prop}(h:Tr x i k){s:Nat->Option Sg}{e:AJ}(hx:DR F w M s x e):
   ∃d v,k d/\DR F w M s d v/\(Instr.extract e i).run P w= .ok v w:=by
 unfold Tr at h;split at h
 . rename_i cs;cases hx with
   | Em _ g j f=>
     cases b:cs[i]? with
     | none=>rw[b] at h;exact h.elim
     | some d=>
       rw[b] at h;have Dv:=(Bn.1 b).1;refine ⟨d,_,h,f i d b,?_⟩;have:i<g.size:=AQ;simp[Instr.extract,this]
 . exact h.elim
end
end Go.Am
namespace Go.Am
open Go
section
variable {P:AK} {c:Ctx} {st:St} {a:Act} {w:AI} {F:Nat->Prop} {M:Nat->Mb}
theorem Ns{t e:AG}{i:AP}(g:P.underlying t=some (.slice e))(b:P.info? e=some i){ad:Addr}{len cap:Nat}{k:IntKind}{n:Int}(f:0<=n/\n<len):
   (Instr.indexAt t (.slice (some ad) len cap) (.int k n)).run P w= .ok (.pointer (some (ad.add (n.toNat*i.size)))) w:=by
 simp[Instr.indexAt,run_underlying g,asIntOf,f,Fb b]
theorem Qe{t e:AG}{m:Nat}{i:AP}(g:P.underlying t=some (.array m e))(b:P.info? e=some i){ad:Addr}{k:IntKind}{n:Int}(f:0<=n/\n<m):
   (Instr.indexAt t (.pointer (some ad)) (.int k n)).run P w= .ok (.pointer (some (ad.add (n.toNat*i.size)))) w:=by
 simp[Instr.indexAt,run_underlying g,asIntOf,f,Fb b,Instr.sureAddr]
theorem Anb{es:Ag}{v:AJ}(h:PR F w (.sl es) v){n:Nat}(g:n<es.length){s:Nat->Option Sg}:
   ∃b off cap sz,v= .slice (some ⟨b,off,none⟩) es.length cap/\(es.getD n []).length=sz/\DR F w M s (.pe (es.getD n [])) (.pointer (some ⟨b,off+n*sz,none⟩)):=by
 cases h with
 | sl0=>simp at g
 | sl _ b off cap sz row t i k l q p m o=>
   have e:es[n]?=some (es.getD n []):=by simp[List.getD,g]
   exact ⟨b,off,cap,sz,rfl,p n _ e,.pe _ b (off+n*sz) row t i k l (λ j c f=>m n _ j c e f) (λ j c f=>o n _ j c e f)⟩
theorem YL{t:AG}{x y:D}{i:Hp}{k:D->Prop}(h:Oe P t x y i k){W Y:AJ}(hx:DR F w M (sg i) x W)(o:DR F w M (sg i) y Y):
   ∃d v,k d/\DR F w M (sg i) d v/\(Instr.indexAt t W Y).run P w= .ok v w:=by
 unfold Oe at h;split at h
 . rename_i _ _ _ _ e _ kd n S;obtain ⟨i1,u1,_,_,H3,_,u⟩:=De S;simp only[TI.mk.injEq] at u;have g:=TK.of_slice u.2.2.1.symm;subst g;cases Yl:Dz P e with
   | none=>rw[Yl] at h;exact h.elim
   | some tj=>
     rw[Yl] at h;(try simp only at h);obtain ⟨q,u2,z2,H8,MN,_,R⟩:=De Yl;subst R;cases o with | p o=>
       cases o;split at h
       . rename_i Z _;obtain ⟨f,HK,h⟩:=h;cases hx with | p hx=>
           obtain ⟨b,off,cap,r,rfl,H,I⟩:=Anb (M:=M) hx (n:=n.toNat) AQ (s:=sg i);have Q:r=q.size:=H.symm.trans HK;subst Q;exact ⟨_,_,h,I,by rw[Ns H3 H8 f,Addr.add_lit]⟩
       . rename_i Z _;obtain ⟨f,HK,h⟩:=h;cases hx with | cl _ K hx _=>
           obtain ⟨b,off,cap,r,z,H,I⟩:=Anb (M:=M) hx (n:=n.toNat) AQ (s:=sg i);have Q:r=q.size:=H.symm.trans HK;subst Q;cases z;exact ⟨_,_,h,I,by rw[Ns H3 H8 f,Addr.add_lit]⟩
       . rename_i id off len N;cases hx with
         | ref _ _ _ _ r m v l V _ h2=>
           rw[l] at h;simp only at h;obtain ⟨f,rfl,rfl,h⟩:=h;obtain ⟨K,cap,rfl,H,I,h5,h6⟩:=h2 rfl;have h7:K=some ⟨(M id).Fm,off*q.size,none⟩:=h6.resolve_left AQ;subst h7;refine ⟨_,_,h,.ea id (off+n.toNat) 0 N q.size N _ l (Bk _) ⟨_,rfl⟩ (λ _=>⟨rfl,AQ⟩),?_⟩;rw[Ns H3 H8 f,Addr.add_lit];simp only[B7,B9]
       . rename_i id N;obtain ⟨f,HK,h⟩:=h;cases hx with
         | E3 _ _ r m k v l V hv h2=>
           obtain ⟨K,cp,rfl,hb⟩:=hv;obtain ⟨b,rfl⟩:=hb.resolve_left AQ;refine ⟨_,_,h,.R9 id n.toNat N r m k b l V AQ (λ e=>?_),?_⟩
           . obtain ⟨a2,c2,g1,g2,g3,g4,E⟩:=h2 e;cases g1;rcases E with E | E
             . omega
             . cases E;exact ⟨rfl,AQ⟩
           . simp only at HK;rw[Ns H3 H8 f,Addr.add_lit,HK];simp
       . exact h.elim
 . rename_i _ _ _ _ m e _ kd n S;obtain ⟨i1,u1,_,_,H3,_,u⟩:=De S;simp only[TI.mk.injEq] at u;have g:=TK.of_array u.2.2.1.symm;subst g;cases Yl:Dz P e with
   | none=>rw[Yl] at h;exact h.elim
   | some tj=>
     rw[Yl] at h;(try simp only at h);obtain ⟨q,u2,z2,H8,MN,_,R⟩:=De Yl;subst R;cases o with | p o=>
       cases o;split at h
       . rename_i _ _ _ id off z;obtain ⟨f,h⟩:=h;cases z;cases hx with | ptr _ _ l=>
           exact ⟨_,_,h,.ptr id _ l,by rw[Qe H3 H8 f,Addr.add_lit]⟩
       . rename_i _ _ _ cs z;obtain ⟨f,h⟩:=h;cases z;cases hx with
         | pe _ b off row e fr hF hh T U=>
           refine ⟨_,_,h,.pe _ b (off+n.toNat*q.size) row e fr hF hh (λ j c B=>?_) (λ j c B=>?_),by rw[Qe H3 H8 f,Addr.add_lit]⟩
           . rw[BX] at B;have:=T _ c B;simp only at this;omega
           . rw[BX] at B;have:=U _ c B;rwa[Nat.add_assoc]
       . exact h.elim
 . exact h.elim
def Ab3(a:Act)(o:Option Operand)(Al8 n:Int):Prop:=(o=none/\n=Al8)∨∃x b,o=some x/\a.eval x= .int b n
theorem GZ(e:Rel c st a w F M){o:Option Operand}{Al8:Int}{k:Int->Prop}(h:Ic st o Al8 k):∃n,k n/\Ab3 a o Al8 n:=by
 unfold Ic at h;cases o with
 | none=>exact ⟨Al8,h,.inl ⟨rfl,rfl⟩⟩
 | some x=>
   simp only at h;have hx:=Di e x;split at h
   . rename_i g n b;rw[b] at hx;generalize f:a.eval x=v at hx;cases hx with | p hx=>exact ⟨n,h,.inr ⟨x,g,rfl,by cases hx;exact f⟩⟩
   . exact h.elim
theorem VK{isSlice:Bool}{len cap:Nat}{l j:Option Operand}{x y:Int}(g:Ab3 a l 0 x)(f:Ab3 a j len y)(h0:0<=x)(i:x<=y)(h2:y<=cap):
   (Instr.sliceBounds isSlice len cap (l.map a.eval) (j.map a.eval) none).run P w= .ok (x.toNat,y.toNat,cap) w:=by
 have o:((y.toNat:Nat):Int)=y:=AQ;have e:0<=y:=AQ;have m:max y 0=y:=AQ;rcases f with ⟨rfl,rfl⟩ | ⟨q,p,rfl,k⟩<;>rcases g with ⟨rfl,rfl⟩ | ⟨r,n,rfl,b⟩
 . simp[Instr.sliceBounds]
 . simp[Instr.sliceBounds,Instr.sliceBound,asIntOf,h0,i,b]
 . simp[Instr.sliceBounds,Instr.sliceBound,asIntOf,h2,k,e]
 . simp[Instr.sliceBounds,Instr.sliceBound,asIntOf,h0,i,h2,k,b,e,m]
theorem An1{len cap:Nat}{l:Option Operand}{j m:AM}{x y:Int}{o q:IntKind}(g:Ab3 a l 0 x)
   (b:a.eval j= .int o y) (e:a.eval m= .int q y) (h0:0<=x) (n:x<=y) (h2:y<=cap):
   (Instr.sliceBounds true len cap (l.map a.eval) ((some j).map a.eval) ((some m).map a.eval)).run P w= .ok (x.toNat,y.toNat,y.toNat) w:=by
 have r:((y.toNat:Nat):Int)=y:=AQ;have f:0<=y:=AQ;have k:max y 0=y:=AQ;rcases g with ⟨rfl,rfl⟩ | ⟨s,p,rfl,i⟩
 . simp[Instr.sliceBounds,Instr.sliceBound,asIntOf,h2,b,e,f,k]
 . simp[Instr.sliceBounds,Instr.sliceBound,asIntOf,h0,n,h2,b,e,i,f,k]
theorem PE{α:Type}(es:List α)(x y i:Nat):((es.take y).drop x)[i]?=if x+i<y then es[x+i]? else none:=by
 rw[BX,BM]
theorem PR.part{es:Ag}{len cap:Nat}{ad:Option Addr}(h:PR F w (.sl es) (.slice ad len cap)){x y m sz:Nat}(hx:x<=y)(B:y<=es.length)(H:y<=m)(E:m<=cap)
   (HK:∀(i:Nat) e,es[i]?=some e->e.length=sz):
   PR F w (.sl ((es.take y).drop x)) (.slice (if m=x then ad else ad.map (·.add (x*sz))) (y - x) (m - x)):=by
 have hlen:((es.take y).drop x).length=y - x:=AW;by_cases p:y - x=0
 . have:(es.take y).drop x=[]:=B0 AQ;rw[this,p];exact .sl0 _ _
 . cases h with
   | sl0=>simp at B;omega
   | sl _ b off cap Va row t o r u s l v z=>
     have k:es[0]?=some (es.getD 0 []):=by
       have:0<es.length:=AQ;simp[List.getD,this]
     have n:Va=sz:=(l 0 _ k).symm.trans (HK 0 _ k);subst n;rw[if_neg AQ];simp only[Ci,Addr.add_lit];rw[<-hlen];refine .sl _ b (off+x*Va) (m - x) Va row t o r u AQ (λ i e f=>?_) (λ i e j q f g=>?_) (λ i e j q f g=>?_)
     . rw[PE] at f;split at f
       . exact l _ _ f
       . cases f
     . rw[PE] at f;split at f
       . have:=v _ _ j q f g;rw[B7] at this;omega
       . cases f
     . rw[PE] at f;split at f
       . have:=z _ _ j q f g;rw[B7] at this;rwa[show off+x*Va+i*Va+j=off+(x*Va+i*Va)+j from by omega]
       . cases f
theorem Rc{t e:AG}{i:AP}(k:P.underlying t=some (.slice e))(j:P.info? e=some i){ad:Option Addr}{len cap:Nat}{f b g:Option Value}{x y m:Nat}
   (hb:(Instr.sliceBounds true len cap f b g).run P w= .ok (x,y,m) w):
   (Instr.sliceAt t (.slice ad len cap) f b g).run P w= .ok (.slice (if m=x then ad else ad.map (·.add (x*i.size))) (y - x) (m - x)) w:=by
 simp[Instr.sliceAt,Instr.slice,run_underlying k,hb,Fb j]
theorem Aju(j:Rel c st a w F M){t:AG}{x:D}{W E H:Option Operand}{k:D->Prop}(h:Abr P st t x W E H k){I:AJ}(hx:DR F w M (sg st.hp) x I):
   ∃d v,k d/\DR F w M (sg st.hp) d v/\(Instr.sliceAt t I (W.map a.eval) (E.map a.eval) (H.map a.eval)).run P w= .ok v w:=by
 unfold Abr at h;split at h
 . rename_i _ _ _ l K;obtain ⟨i1,u1,_,_,H3,_,z⟩:=De K;simp only[TI.mk.injEq] at z;have s:=TK.of_string z.2.2.1.symm;subst s;obtain ⟨i,h⟩:=h;have Bo8:H=none:=by simpa using i
   subst Bo8;obtain ⟨x,h,g⟩:=GZ j h;obtain ⟨y,h,f⟩:=GZ j h;obtain ⟨⟨r,h2,R⟩,h⟩:=h;cases hx with | p hx=>
     cases hx;have hb:=VK (P:=P) (w:=w) (isSlice:=false) (len:=(⟨l.toArray⟩:ByteArray).size) (cap:=(⟨l.toArray⟩:ByteArray).size) g (by rw[Qb];exact f) r h2 (by rw[Qb];exact R);refine ⟨_,_,h,.p (.str _),?_⟩;simp only[Instr.sliceAt,Instr.slice,Sem.run_bind,run_underlying H3,Result.andThen_ok,Option.map_none,Option.isSome_none,BY,Cy,Sem.run_ite,hb,Sem.run_pure]
     congr 2
     apply ByteArray.ext;apply Array.ext';simp[List.drop_take]
 . rename_i _ _ _ _ e _ K;obtain ⟨i1,u1,_,_,H3,_,z⟩:=De K;simp only[TI.mk.injEq] at z;have s:=TK.of_slice z.2.2.1.symm;subst s;cases Yl:Dz P e with
   | none=>rw[Yl] at h;exact h.elim
   | some tj=>
     rw[Yl] at h;obtain ⟨i2,u2,z2,H8,MN,_,rfl⟩:=De Yl;simp only at h;split at h
     . rename_i o;cases hx with | p hx=>
         split at h
         . obtain ⟨x,h,g⟩:=GZ j h;obtain ⟨y,h,f⟩:=GZ j h;obtain ⟨⟨r,h2,R⟩,HK,h⟩:=h;have u:=hx;have U:∃n cap,I= .slice n o.length cap/\o.length<=cap:=by
             cases hx with
             | sl0 n cap=>exact ⟨_,_,rfl,AT⟩
             | sl _ b off cap Y row t fr hF S B=>exact ⟨_,_,rfl,B⟩
           obtain ⟨n,cap,rfl,Qn⟩:=U;have hb:=VK (P:=P) (w:=w) (isSlice:=true) (len:=o.length) (cap:=cap) g f r h2 AQ;refine ⟨_,_,h,.p (u.part (x:=x.toNat) (y:=y.toNat) (m:=cap) AQ AQ AQ (Bk _) HK),?_⟩;exact Rc H3 H8 hb
         . rename_i mq;obtain ⟨x,h,g⟩:=GZ j h;obtain ⟨y,h,f⟩:=GZ j h;obtain ⟨q,h,i⟩:=GZ j h;obtain ⟨⟨r,h2,rfl,R⟩,HK,Brp,T⟩:=h;have u:=hx;have U:∃n cap,I= .slice n o.length cap/\o.length<=cap:=by
             cases hx with
             | sl0 n cap=>exact ⟨_,_,rfl,AT⟩
             | sl _ b off cap Y row t fr hF S B=>exact ⟨_,_,rfl,B⟩
           obtain ⟨n,cap,rfl,Qn⟩:=U;obtain ⟨_,kq,e6,hq⟩:=i.resolve_left AT;cases e6;cases E with
           | none=>simp at Brp
           | some E=>
             obtain ⟨_,kh,e7,S⟩:=f.resolve_left AT;cases e7;have hb:=An1 (P:=P) (w:=w) (len:=o.length) (cap:=cap) g S hq r h2 AQ;have hp:=u.part (x:=x.toNat) (y:=y.toNat) (m:=y.toNat) AQ AQ (Bk _) AQ HK;have hlen:((o.take y.toNat).drop x.toNat).length=y.toNat - x.toNat:=AW;refine ⟨_,_,T,?_,Rc H3 H8 hb⟩;rw[<-hlen] at hp ⊢;exact .cz _ _ hp
     . rename_i id off len N;cases hx with
       | ref _ _ _ _ Y m v V hN _ h2=>
         rw[V] at h;simp only at h;obtain ⟨i,rfl,h⟩:=h;have Bo8:H=none:=by simpa using i
         subst Bo8;obtain ⟨x,h,g⟩:=GZ j h;obtain ⟨y,h,f⟩:=GZ j h;obtain ⟨⟨r,h5,h6⟩,h⟩:=h;obtain ⟨rfl,T⟩:=h;obtain ⟨n,cap,rfl,h7,h8,h9,XB⟩:=h2 rfl;have hb:=VK (P:=P) (w:=w) (isSlice:=true) (len:=len) (cap:=cap) g f r h5 AQ;refine ⟨_,_,T,?_,Rc H3 H8 hb⟩;refine .ref id (off+x.toNat) (y - x).toNat N i2.size N _ V (Bk _) ⟨_,_,_,rfl⟩ (λ _=>?_);have Z:(y - x).toNat=y.toNat - x.toNat:=AQ;rw[Z];refine ⟨_,_,rfl,AQ,AQ,AQ,?_⟩;by_cases B:cap=x.toNat
         . left;omega
         . right;rw[if_neg B];have Q:=XB.resolve_left AQ;rw[Q];simp only[Ci,Addr.add_lit,B7]
     . exact h.elim
 . exact h.elim
def Nk(F:Nat->Prop)(w:AI)(M:Nat->Mb)(s:Nat->Option Sg)(cs:Ai)(vs:At):Prop:=
 vs.length=cs.length/\∀(i:Nat) c,cs[i]?=some c->DR F w M s c (vs.getD i undef)
theorem Nk.append{s:Nat->Option Sg}{cs cs':Ai}{vs vs':At}(h:Nk F w M s cs vs)(h':Nk F w M s cs' vs'):Nk F w M s (cs++cs') (vs++vs'):=by
 refine ⟨by simp[h.1,h'.1],λ i c b=>?_⟩;rw[BZ] at b;have e:=h.1;split at b
 . rename_i Dv;have:=h.2 i c b;rw[Bu] at this ⊢;rwa[Cw AQ]
 . rename_i f;have:=h'.2 _ c b;rw[Bu] at this ⊢;rwa[CI AQ,e]
theorem Nk.take{s:Nat->Option Sg}{cs:Ai}{vs:At}(h:Nk F w M s cs vs)(n:Nat):Nk F w M s (cs.take n) (vs.take n):=by
 refine ⟨by simp[h.1],λ i c b=>?_⟩;rw[BM] at b;split at b
 . rename_i Dv;have:=h.2 i c b;rw[Bu] at this ⊢;rwa[BM,if_pos Dv]
 . cases b
theorem Nk.drop{s:Nat->Option Sg}{cs:Ai}{vs:At}(h:Nk F w M s cs vs)(n:Nat):Nk F w M s (cs.drop n) (vs.drop n):=by
 refine ⟨by simp[h.1],λ i c b=>?_⟩;rw[BX] at b;have:=h.2 _ c b;rw[Bu] at this ⊢;rwa[BX]
theorem DR.cells{s:Nat->Option Sg}{d:D}{v:AJ}(h:DR F w M s d v)(hb:d.cells.all D.one=true∨∃cs,d= .agg cs):Nk F w M s d.cells v.cells.toList:=by
 have one:∀{d:D} {v:AJ},DR F w M s d v->v.cells=#[v]->d.cells=[d]->Nk F w M s d.cells v.cells.toList:=by
   intro d v h B E;rw[B,E];refine ⟨AT,λ i c o=>?_⟩;cases i with
   | zero=>simp only[List.getElem?_cons_zero,Option.some.injEq] at o;subst o;simpa [List.getD] using h
   | succ i=>simp at o
 cases h with
 | p h=>refine one (.p h) ?_ rfl;cases h<;>rfl
 | agg cs z r o=>exact ⟨by simp[Value.cells,D.cells,r],λ i c h=>by have:=o i c h;simpa [Value.cells,List.getD,Array.getD_eq_getD_getElem?] using this⟩
 | Em cs z r o=>rcases hb with hb | ⟨_,hb⟩<;>simp[D.cells,D.one] at hb
 | cl x u h Q=>exact one (.cl x u h Q) rfl rfl
 | cz x u h=>exact one (.cz x u h) rfl rfl
 | ref id off len N j n v e g l h=>obtain ⟨_,_,_,rfl⟩:=l;exact one (.ref id off len N j n _ e g ⟨_,_,_,rfl⟩ h) rfl rfl
 | ptr id off e=>exact one (.ptr id off e) rfl rfl
 | pe cs b off row t H I K y R=>exact one (.pe cs b off row t H I K y R) rfl rfl
 | ea id i c N j n v e g l h=>obtain ⟨_,rfl⟩:=l;exact one (.ea id i c N j n _ e g ⟨_,rfl⟩ h) rfl rfl
 | fn f cap z r h=>exact one (.fn f cap z r h) rfl rfl
 | np=>exact one .np rfl rfl
 | mv id e=>exact one (.mv id e) rfl rfl
 | E3 id n j m k v e g l h=>obtain ⟨_,_,rfl,hx⟩:=l;exact one (.E3 id n j m k _ e g ⟨_,_,rfl,hx⟩ h) rfl rfl
 | R9 id i n j m k b e g y h=>exact one (.R9 id i n j m k b e g y h) rfl rfl
 | nr id i len q j m k v e g l h=>obtain ⟨_,_,rfl⟩:=l;exact one (.nr id i len q j m k _ e g ⟨_,_,rfl⟩ h) rfl rfl
 | WE v h=>exact one (.WE v h) (by cases v<;>first | rfl | (simp[Value.oneCell'] at h)) rfl
 | bad v=>rcases hb with hb | ⟨_,hb⟩<;>simp[D.cells,D.one] at hb
end
end Go.Am
namespace Go.Am
open Go
section
variable {P:AK} {c:Ctx} {st:St} {a:Act} {w:AI} {F:Nat->Prop} {M:Nat->Mb}
theorem Ao8(off:Nat):∀(l:At) (k:Nat) (cells:Array Value),off+k+l.length<=cells.size->
   ((l.zipIdx k).foldl (λ cs q=>cs.setIfInBounds (off+q.2) q.1) cells).toList=cells.toList.take (off+k)++l++cells.toList.drop (off+k+l.length)
 | [],k,cells,_=>AT
 | v::l,k,cells,h=>by
   simp only[Br] at h;simp only[List.zipIdx_cons,List.foldl_cons];rw[Ao8 off l (k+1) _ AW];simp only[Array.toList_setIfInBounds,Br];have b:(cells.toList.set (off+k) v).take (off+(k+1))=cells.toList.take (off+k)++[v]:=by
     rw[show off+(k+1)=(off+k)+1 from AQ,List.take_add_one,CH AW,List.take_set_of_le AQ];rfl
   have e:(cells.toList.set (off+k) v).drop (off+(k+1)+l.length)=cells.toList.drop (off+k+(l.length+1)):=by
     rw[List.drop_set_of_lt AQ]
     congr 1
     omega
   rw[b,e];simp
theorem V8(e:Rel c st a w F M)(place:Nat->Option (Nat×Nat)):∀(parts:AF) (cs:Ai) (vs:Array Value) (cs':Ai),Nk F w M (sg st.hp) cs vs.toList->
   J2 place cs (parts.map λ q=>(q.1,ev st q.2))=some cs'->∃vs',Instr.fill place vs (parts.map λ q=>(q.1,a.eval q.2))=some vs'/\Nk F w M (sg st.hp) cs' vs'.toList
 | [],cs,vs,cs',h,b=>by
   simp only[List.map_nil,J2,Bo] at b;subst b;exact ⟨vs,by simp[Instr.fill],h⟩
 | (i,x)::parts,cs,vs,cs',h,b=>by
   simp only[B4,J2] at b;cases hp:place i with
   | none=>rw[hp] at b;simp at b
   | some q=>
     obtain ⟨off,size⟩:=q;rw[hp] at b;simp only at b;split at b
     case isFalse=>cases b
     rename_i k;obtain ⟨m,h2,f⟩:=k;have hx:=(Di e x).cells (.inl f);have HK:(a.eval x).cells.size=size:=by have:=hx.1;simp at this;omega
     have l:vs.size=cs.length:=by have:=h.1;simpa using this
     obtain ⟨vs',g,j⟩:=V8 e place parts _ ((a.eval x).cells.zipIdx.foldl (λ cs q=>cs.setIfInBounds (off+q.2) q.1) vs) cs' (by
       rw[<-Array.foldl_toList,Array.toList_zipIdx,Ao8 off _ 0 vs AW];simp only[B9,Array.length_toList,HK];exact ((h.take off).append hx).append (h.drop (off+size))) b
     refine ⟨vs',?_,j⟩;simp only[B4,Instr.fill,hp,HK];rw[if_neg AW];exact g
theorem Vf:∀(b:List Field) (e:Al),Rh P (b.map λ f=>(f.offset,f.type))=some e->
   b.mapM (λ f=>(P.info? f.type).map λ i=>(f.offset,i.size))=some e
 | [],e,h=>by simp[Rh] at h;subst h;rfl
 | f::b,e,h=>by
   simp only[B4,Rh] at h;split at h
   . rename_i k l g h2;obtain ⟨i,u,z,j,_,_,rfl⟩:=De g;cases h;simp[Vf b l h2,j]
   . cases h
theorem Atx{z:AJ}{e:Ai}(h:M9 z= .agg e):∃cs,z= .agg cs:=by
 cases z<;>first
   | exact ⟨_,rfl⟩
   | (simp[M9] at h;done)
   | (rename_i q;cases q<;>simp[M9] at h;done)
   | (rename_i b l q;cases b<;>(try cases l)<;>(try cases q)<;>simp[M9] at h)
theorem Alg(E:Rel c st a w F M){t:AG}{parts:Array (Nat×Operand)}{k:D->Prop}(h:Aeo P st t parts.toList k):
   ∃d v,k d/\DR F w M (sg st.hp) d v/\(Instr.build t (parts.map λ (i,x)=>(i,a.eval x))).run P w= .ok v w:=by
 have Bo4:(parts.map λ (i,x)=>(i,a.eval x)).toList=parts.toList.map λ q=>(q.1,a.eval q.2):=AT;have key:∀(place:Nat->Option (Nat×Nat)) (z:AJ) (f cs:Ai),M9 z= .agg f->J2 place f (parts.toList.map λ q=>(q.1,ev st q.2))=some cs->
     ∃b,Instr.fill place z.cells (parts.map λ (i,x)=>(i,a.eval x)).toList=some b/\DR F w M (sg st.hp) (.agg cs) (.agg b):=by
   intro place z f cs g n;obtain ⟨y,rfl⟩:=Atx g;have u:=(NI F w M (sg st.hp) (.agg y)).cells (.inr ⟨_,g⟩);rw[g] at u;obtain ⟨b,l,h2⟩:=V8 E place parts.toList f y cs u n;exact ⟨b,by rw[Bo4];exact l,.agg _ _ (by simpa using h2.1) (λ i c B=>by have:=h2.2 i c B;simpa [List.getD,Array.getD_eq_getD_getElem?] using this)⟩
 unfold Aeo at h;split at h
 . rename_i _ _ _ N K l;obtain ⟨H,I,s,Og,H3,QT,j⟩:=De l;simp only[TI.mk.injEq] at j;obtain ⟨_,_,o,rfl⟩:=j;obtain ⟨gs,rfl,rfl⟩:=TK.of_struct o.symm;split at h
   case h_2=>exact h.elim
   rename_i R f r g;split at h
   case h_2=>exact h.elim
   rename_i cs n;obtain ⟨b,h2,p⟩:=key _ s f cs g n;refine ⟨_,_,h,p,run_build w t _ b ?_⟩;unfold Program.built;simp only[Og,H3,QT,Vf _ _ r]
   simpa using h2
 . rename_i _ _ _ m e K l;obtain ⟨H,I,s,Og,H3,QT,j⟩:=De l;simp only[TI.mk.injEq] at j;obtain ⟨_,_,o,rfl⟩:=j;obtain rfl:=TK.of_array o.symm;split at h
   case h_2=>exact h.elim
   rename_i S f Yl g;obtain ⟨Q,T,U,H8,MN,_,rfl⟩:=De Yl;split at h
   case h_2=>exact h.elim
   rename_i cs n;obtain ⟨b,h2,p⟩:=key _ s f cs g n;refine ⟨_,_,h,p,run_build w t _ b ?_⟩;unfold Program.built;simp only[Og,H3,QT,H8,h2]
 . exact h.elim
theorem Pd.Aru{i:KK}{key q:Pd}{d:AN}(e:match i with | .int x=>d= .int x | .str=>d= .string)(j:i.fit key=true){b:Bool}(h:Pd.same key q=some b):Instr.sameNow d key.val q.val=some b:=by
 cases i with
 | int x=>
   simp only at e;subst e;cases key<;>simp[KK.fit] at j;cases q<;>simp[Pd.same] at h;simp only[Pd.val,Instr.sameNow];obtain ⟨k,h2⟩:=h;rw[if_pos k,h2]
 | str=>
   simp only at e;subst e;cases key<;>simp[KK.fit] at j;cases q<;>simp[Pd.same] at h;simp only[Pd.val,Instr.sameNow,Bo];rw[<-h,Bool.eq_iff_iff];rw[MapKept.bytes_beq];constructor
   . intro f;have g:=B3 (λ z:ByteArray=>z.data.toList) f
     simpa using g
   . intro f;have g:=eq_of_beq f;rw[g]
theorem Pd.Bio{a b:Pd}(h:Pd.same a b=some true):a.val=b.val:=by
 cases a<;>cases b<;>simp[Pd.same] at h
 . obtain ⟨rfl,rfl⟩:=h;rfl
 . subst h;rfl
theorem Anj{y:KK}{key:Pd}{d:AN}(t:match y with | .int x=>d= .int x | .str=>d= .string)(u:y.fit key=true):
   ∀(es:List MapEntry) (l:AE) (n:Nat),es.map (λ e=>(e.key,e.val))=l.map (λ p=>(p.1.val,p.2.val))->Brc key l->
     (∃v i,Bcx key l=some v/\Instr.findNow d key.val es n=some (some (n+i,v.val))/\v∈l.map (·.2)/\(∃e,es[i]?=some e/\e.key=key.val)/\
       ∀x:Pd,(es.modify i λ e=>{e with key:=key.val,val:=x.val}).map (λ e=>(e.key,e.val))=(Awj key x l).map (λ p=>(p.1.val,p.2.val)))∨
     (Bcx key l=none/\Instr.findNow d key.val es n=some none/\∀x,Awj key x l=l++[(key,x)])
 | [],[],n,_,_=> .inr ⟨rfl,rfl,λ _=>rfl⟩
 | [],_::_,n,h,_=>by simp at h
 | _::_,[],n,h,_=>by simp at h
 | e::es,(q,v)::l,n,h,k=>by
   simp only[B4,List.cons.injEq,Cs] at h;obtain ⟨⟨j,h2⟩,s⟩:=h;unfold Brc Aci at k;cases f:Pd.same key q with
   | none=>rw[f] at k;simp at k
   | some b=>
     have r:=Pd.Aru t u f;cases b with
     | true=>exact .inl ⟨v,0,by simp[Bcx,Aci,f],by simp[Instr.findNow,j,r,h2],AT,⟨e,rfl,j.trans (Pd.Bio f).symm⟩,λ x=>by simp[Awj,f,s]⟩
     | false=>
       rw[f] at k;rcases Anj t u es l (n+1) s k with ⟨I,i,g,m,o,⟨z,B,E⟩,H⟩ | ⟨g,m,o⟩
       . refine .inl ⟨I,i+1,?_,?_,List.mem_cons_of_mem _ o,⟨z,by simpa using B,E⟩,λ x=>by simp[Awj,f,j,h2,H x]⟩
         . unfold Bcx at g ⊢;simp only[Aci,f];exact g
         . simp only[Instr.findNow,j,r,m];congr 3;omega
       . refine .inr ⟨?_,?_,λ x=>by simp[Awj,f,o x]⟩
         . unfold Bcx at g ⊢;simp only[Aci,f];exact g
         . simp only[Instr.findNow,j,r,m]
theorem mapOf_some{t:AG}{o:KK}{z:Pd}(h:mapOf P t=some (o,z)):∃j e d i b,P.underlying t=some (.map j e)/\P.underlying j=some d/\(match o with | .int x=>d= .int x | .str=>d= .string)/\
   P.info? e=some i/\i.zero=some b/\b=z.val/\z.flat=true:=by
 unfold mapOf at h;split at h
 case h_2=>cases h
 rename_i j e l;have n:∀{b:AJ} {y:Pd},pdV b=some y->b=y.val/\y.flat=true:=by
   intro b y m;cases b<;>simp[pdV] at m<;>subst m<;>simp[Pd.val,Pd.flat]
 split at h
 . rename_i q b k f;cases H8:P.info? e with
   | none=>rw[H8] at f;cases f
   | some i=>
     rw[H8] at f;cases g:pdV b with
     | none=>rw[g] at h;cases h
     | some y=>rw[g] at h;cases h;exact ⟨j,e,_,i,b,l,k,rfl,H8,f,n g⟩
 . rename_i b k f;cases H8:P.info? e with
   | none=>rw[H8] at f;cases f
   | some i=>
     rw[H8] at f;cases g:pdV b with
     | none=>rw[g] at h;cases h
     | some y=>rw[g] at h;cases h;exact ⟨j,e,_,i,b,l,k,rfl,H8,f,n g⟩
 . cases h
theorem isKey_fit{f:KK}{key:Pd}{d:AN}(b:match f with | .int x=>d= .int x | .str=>d= .string)(e:f.fit key=true):MapKept.IsKey d key.val:=by
 cases f with
 | int x=>simp only at b;subst b;cases key<;>simp[KK.fit] at e;exact e
 | str=>simp only at b;subst b;cases key<;>simp[KK.fit] at e;trivial
theorem Afj(g:Rel c st a w F M){t:AG}{x i:D}{ok:Bool}{k:D->Prop}(h:Ake P st.hp t x i ok k){e b:AJ}(hx:DR F w M (sg st.hp) x e)(f:DR F w M (sg st.hp) i b):
   ∃d v,k d/\DR F w M (sg st.hp) d v/\(Instr.lookup t e b ok).run P w= .ok v w:=False.elim h
theorem Awz{t:AG}{x d:D}{s:Nat->Option Sg}(h:ifD P t x=some d){f:AJ}(hx:DR F w M s x f):∃v,DR F w M s d v/\(Instr.makeInterface t f).run P w= .ok v w:=by
 have key:∀u,P.underlying t=some u->(∀m,u≠ .interface m)->Acw t x=some d->∃v,DR F w M s d v/\(Instr.makeInterface t f).run P w= .ok v w:=by
   intro u k j e;have ET:(Instr.makeInterface t f).run P w= .ok (.iface t f) w:=by
     simp only[Instr.makeInterface,Sem.run_bind,run_underlying k,Result.andThen_ok];cases u<;>first | rfl | (exfalso;exact j _ rfl)
   unfold Acw at e;split at e
   . cases e;cases hx with | p hx=>cases hx;exact ⟨_,.p (.ifi _ _ _),ET⟩
   . cases e;cases hx with | p hx=>cases hx;exact ⟨_,.p (.ifs _ _),ET⟩
   . cases e
 unfold ifD at h;split at h
 . rename_i g;obtain ⟨l,n,_,_,H3,_,b⟩:=De g;simp only[TI.mk.injEq] at b;obtain rfl:=TK.of_int b.2.2.1.symm;exact key _ H3 (by intro m i;cases i) h
 . rename_i g;obtain ⟨l,n,_,_,H3,_,b⟩:=De g;simp only[TI.mk.injEq] at b;obtain rfl:=TK.of_string b.2.2.1.symm;exact key _ H3 (by intro m i;cases i) h
 . cases h
theorem Bb2{t xt:AG}{x d:D}{s:Nat->Option Sg}(h:asD P t x=some d){g:AJ}(hx:DR F w M s x g):∃v,DR F w M s d v/\(Instr.typeAssert g xt t true).run P w= .ok v w:=by
 have key:∀i u z,P.info? t=some i->i.zero=some z->P.underlying t=some u->(∀m,u≠ .interface m)->asV t (M9 z) x=some d->∃v,DR F w M s d v/\(Instr.typeAssert g xt t true).run P w= .ok v w:=by
   intro i u z N U S Q l;have H:(zeroValue t).run P w= .ok z w:=by simp[zeroValue,typeInfo,N,U]
   have ET:∀(q:AG) (v:AJ),g= .iface q v->(Instr.typeAssert g xt t true).run P w= .ok (if q=t then .tuple #[v,.bool true] else .tuple #[z,.bool false]) w:=by
     rintro q v rfl;simp only[Instr.typeAssert,Sem.run_bind,run_underlying S,Result.andThen_ok];cases u<;>first
       | (exfalso;exact Q _ rfl)
       | (by_cases e:q=t
          . simp[e]
          . simp[e,H])
   have two:∀(a b:D) (n o:AJ),DR F w M s a n->DR F w M s b o->DR F w M s (.Em [a,b]) (.tuple #[n,o]):=by
     intro a b n o I hb;refine .Em _ #[n,o] rfl (λ j c k=>?_);rcases j with _ | _ | j
     . simp at k;subst k;exact I
     . simp at k;subst k;exact hb
     . simp at k
   have fin:∀(q:AG) (y:D) (v:AJ),DR F w M s y v->g= .iface q v->some (if Ve q t=true then D.Em [y,.p (.bool true)] else .Em [M9 z,.p (.bool false)])=some d->∃v,DR F w M s d v/\(Instr.typeAssert g xt t true).run P w= .ok v w:=by
     intro q y v T R K;cases K;refine ⟨_,?_,ET q v R⟩;by_cases e:q=t
     . have r:Ve q t=true:=by simp[Ve,e]
       rw[if_pos r,if_pos e];exact two _ _ _ _ T (.p (.bool true))
     . have r:¬Ve q t=true:=by simp only[Ve,BI];exact e
       rw[if_neg r,if_neg e];exact two _ _ _ _ (NI F w M s z) (.p (.bool false))
   unfold asV at l;split at l
   . cases hx with | p hx=>cases hx;exact fin _ _ _ (.p (.int _ _)) rfl l
   . cases hx with | p hx=>cases hx;exact fin _ _ _ (.p (.str _)) rfl l
   . cases l
 unfold asD at h;split at h
 . rename_i B;obtain ⟨V,W,Y,Og,H3,QT,f⟩:=De B;simp only[TI.mk.injEq] at f;obtain rfl:=TK.of_int f.2.2.1.symm;rw[f.2.2.2] at h;exact key _ _ _ Og QT H3 (by intro m E;cases E) h
 . rename_i B;obtain ⟨V,W,Y,Og,H3,QT,f⟩:=De B;simp only[TI.mk.injEq] at f;obtain rfl:=TK.of_string f.2.2.1.symm;rw[f.2.2.2] at h;exact key _ _ _ Og QT H3 (by intro m E;cases E) h
 . cases h
theorem Agc(j:Rel c st a w F M){o:Oper}{k:D->Prop}(h:vOp P st o.op k):
   ∃d v,k d/\DR F w M (sg st.hp) d v/\(execOp a.eval o).run P w= .ok (.value v) w:=by
 have wrap:∀(s:Sem Value),(∃d v,k d/\DR F w M (sg st.hp) d v/\s.run P w= .ok v w)->execOp a.eval o=(do pure (.value (<-s)):Sem Next)->
     ∃d v,k d/\DR F w M (sg st.hp) d v/\(execOp a.eval o).run P w= .ok (.value v) w:=by
   rintro s ⟨d,v,B,h2,E⟩ e;exact ⟨d,v,B,h2,by rw[e];simp[E]⟩
 unfold vOp at h;split at h
 . rename_i x g;exact ⟨_,_,h,Di j x,by simp[execOp,g]⟩
 . rename_i x g;exact ⟨_,_,h,Di j x,by simp[execOp,g]⟩
 . rename_i x y z g;obtain ⟨d,v,B,h2,E⟩:=An8 (P:=P) h (Di j x) (Di j y) (Di j z);exact ⟨d,v,B,h2,by simp only[execOp,g];exact E⟩
 . rename_i op t x y yt g;exact wrap _ (Aqh h (Di j x) (Di j y) x y) (by simp only[execOp,g])
 . rename_i op t x g;exact wrap _ (Avy h (Di j x)) (by simp only[execOp,g])
 . rename_i x g;have hx:=Di j x;have run:∀{u},a.eval x= .pointer (some u)->(execOp a.eval o).run P w= .ok (.value (.pointer (some u))) w:=by
     intro u e;simp[execOp,g,e]
   split at h
   . rename_i id off p;rw[p] at hx;generalize l:a.eval x=v at hx;cases hx with | ptr _ _ r=>exact ⟨_,_,h,.ptr id off r,run l⟩
   . rename_i cs p;rw[p] at hx;generalize l:a.eval x=v at hx;cases hx with | pe _ b off row e T V Z S hp=>exact ⟨_,_,h,.pe cs b off row e T V Z S hp,run l⟩
   . rename_i id i q N p;rw[p] at hx;generalize l:a.eval x=v at hx;cases hx with
     | ea _ _ _ _ sz n v r W Q h2=>
       rw[r] at h;obtain ⟨R,Dv⟩:=h2 h.1;subst R;exact ⟨_,_,h.2,.ea id i q N sz n _ r W Q h2,run l⟩
   . exact h.elim
 . rename_i s d x g;exact wrap _ (Aq3 h (Di j x)) (by simp only[execOp,g])
 . rename_i t parts g;exact wrap _ (Alg j h) (by simp only[execOp,g])
 . rename_i t x g;exact wrap _ (ZQ j.heap h (Di j x)) (by simp only[execOp,g])
 . rename_i t x lo S mx g;exact wrap _ (Aju j h (Di j x)) (by simp only[execOp,g])
 . rename_i t x f g;exact wrap _ (YX h (Di j x)) (by simp only[execOp,g])
 . rename_i t x f g;exact wrap _ (Aks h (Di j x)) (by simp only[execOp,g])
 . rename_i t x i g;exact wrap _ (YL h (Di j x) (Di j i)) (by simp only[execOp,g])
 . rename_i t x i g;exact wrap _ (Akj h (Di j x) (Di j i)) (by simp only[execOp,g])
 . rename_i t i g;exact wrap _ (Adm h (Di j t)) (by simp only[execOp,g])
 . rename_i t x i ok g;exact wrap _ (Afj j h (Di j x) (Di j i)) (by simp only[execOp,g])
 . rename_i f first cap g
   obtain ⟨U,h⟩:=h;have Y:first=#[]:=Array.eq_empty_of_size_eq_zero U
   subst Y;refine ⟨_,.func (.func f) #[] (cap.map a.eval),h,.fn f _ _ AT (λ i c m=>?_),by simp[execOp,g,Instr.makeFunc]⟩;rw[BD] at m;cases I:cap.toList[i]? with
   | none=>rw[I] at m;cases m
   | some q=>
     rw[I] at m;cases m;have:=Di j q;have K:cap[i]?=some q:=by simpa using I
     simpa [Array.getD_eq_getD_getElem?,K] using this
 . rename_i t x g;split at h
   . rename_i d H;obtain ⟨v,l,ET⟩:=Awz H (Di j x);exact wrap _ ⟨d,v,h,l,ET⟩ (by simp only[execOp,g])
   . exact h.elim
 . rename_i x xt t g;split at h
   . rename_i d H;obtain ⟨v,l,ET⟩:=Bb2 (xt:=xt) H (Di j x);exact wrap _ ⟨d,v,h,l,ET⟩ (by simp only[execOp,g])
   . exact h.elim
 . exact h.elim
end
end Go.Am
namespace Go.Am
open Go
theorem DH{α:Type}(x:α):∀(h:List (Nat×α)) (id j:Nat),get (Dn h id x) j=if j=id then some x else get h j
 | [],id,j=>by simp only[Dn,get];by_cases e:id=j<;>simp[e,eq_comm]
 | (k,y)::r,id,j=>by
   have b:=DH x r id j;simp only[Dn];by_cases e:k=id
   . subst e;simp only[B5,get];by_cases a:k=j
     . simp[a]
     . simp[a,CK a]
   . simp only[e,Cy,get,b];by_cases a:k=j
     . subst a;simp[e]
     . simp[a]
section
variable {P:AK} {c:Ctx} {st:St} {a:Act} {w:AI} {F:Nat->Prop} {M:Nat->Mb}
theorem Rel.change(i:Rel c st a w F M){id:Nat}{r:AO}{w':AI}{M':Nat->Mb}{hp':Hp}
   (Dr:∀j,get hp' j=if j=id then some r else get st.hp j) (q:∀j,j≠id->M' j=M j) (Lz:Ea M M' (sg st.hp) (sg hp'))
   (u:w'.os=w.os) (Xm:w'.tape=w.tape) (Aag:w'.output=w.output) (La:w.heap.size<=w'.heap.size)
   (hold:∀b,b<w.heap.size->(∀o,get st.hp id=some o->¬o.JM (M id) b)->w'.heap[b]?=w.heap[b]?)
   (Sa:UN F w' M' (sg hp') (M' id) r)
   (Ao1:∀b,r.JM (M' id) b->(∃o,get st.hp id=some o/\o.JM (M id) b)∨w.heap.size<=b):
   Rel c {st with hp:=hp'} a w' F M':=by
 have v:∀b,F b->w'.heap[b]?=w.heap[b]?:=λ b hb=>hold b (i.keep.Fl b hb) (λ o k DD=>i.heap.PH ⟨id,o,k,DD⟩ hb);have Bo5:∀j o b,j≠id->get st.hp j=some o->o.JM (M j) b->w'.heap[b]?=w.heap[b]?:=λ j o b f k DD=>
   hold _ (i.heap.lt ⟨j,o,k,DD⟩) (λ n s Aut=>f (i.heap.inj j o id n b k s DD Aut))
 have EG:∀j o b,j≠id->get st.hp j=some o->o.JM (M j) b->¬r.JM (M' id) b:=λ j o b f k DD Ud=>by
   rcases Ao1 b Ud with ⟨n,m,h2⟩ | m
   . exact f (i.heap.inj j o id n b k m DD h2)
   . have:=i.heap.lt ⟨j,o,k,DD⟩;omega
 constructor
 . intro t d y;exact (i.env t d y).keep v (λ _ h=>h) Lz
 . exact i.size
 . exact i.defers
 . constructor
   . intro j o f;rw[Dr] at f;by_cases e:j=id
     . subst e;simp only[B5,Bo] at f;subst f;exact Sa
     . rw[if_neg e] at f;rw[q j e];exact (i.heap.obj j o f).keep v (λ _ h=>h) Lz (λ b DD=>⟨Bo5 j o b e f DD,i.heap.PH ⟨j,o,f,DD⟩⟩)
   . intro j o p n b f I4 DD FB;rw[Dr] at f I4;by_cases e:j=id
     . by_cases l:p=id
       . rw[e,l]
       . subst e;rw[if_neg l] at I4;simp only[B5,Bo] at f;subst f;rw[q p l] at FB;exact (EG p n b l I4 FB DD).elim
     . rw[if_neg e] at f;rw[q j e] at DD;by_cases l:p=id
       . subst l;simp only[B5,Bo] at I4;subst I4;exact (EG j o b e f DD FB).elim
       . rw[if_neg l] at I4;rw[q p l] at FB;exact i.heap.inj j o p n b f I4 DD FB
 . have g:=i.keep;refine ⟨u.trans g.os,Xm.trans g.tape,Aag.trans g.output,CF g.size La,λ b hb x=>?_,g.F0,g.Fn,λ b hb=>Nat.lt_of_lt_of_le (g.Fl b hb) La,?_,g.sgk.trans Lz,g.s0b⟩
   . rw[hold b (Nat.lt_of_lt_of_le hb g.size) (λ o k DD=>?_)]
     . exact g.Ua b hb x
     . rcases g.own _ ⟨id,o,k,DD⟩ with m | m
       . exact x m
       . omega
   . rintro b ⟨j,o,f,DD⟩;rw[Dr] at f;by_cases e:j=id
     . subst e;simp only[B5,Bo] at f;subst f;rcases Ao1 b DD with ⟨n,m,h2⟩ | m
       . exact g.own _ ⟨j,n,m,h2⟩
       . right;have:=g.size;omega
     . rw[if_neg e] at f;rw[q j e] at DD;exact g.own _ ⟨j,o,f,DD⟩
theorem Ee{b hp':Hp}{id:Nat}{f:AO}(Dr:∀j,get hp' j=if j=id then some f else get b j)(j:Nat):
   sg hp' j=if j=id then some f.sg else sg b j:=by
 unfold sg;rw[Dr];by_cases e:j=id<;>simp[e]
theorem Je{M M':Nat->Mb}{g hp':Hp}{id:Nat}{m:AO}(Dr:∀j,get hp' j=if j=id then some m else get g j)(i:∀j,j≠id->M' j=M j)
   (l:get g id=none):Ea M M' (sg g) (sg hp'):=by
 have f:sg g id=none:=by simp[sg,l]
 refine ⟨λ j b=>?_,λ j o n b=>?_,λ j o n k b=>?_⟩
 . have e:j≠id:=λ e=>by rw[e,f] at b;cases b
   rw[Ee Dr,if_neg e,i j e];exact ⟨b,rfl⟩
 . have e:j≠id:=λ e=>by rw[e,f] at b;cases b
   rw[Ee Dr,if_neg e,i j e];exact ⟨n,b,Bk _,λ _=>rfl⟩
 . have e:j≠id:=λ e=>by rw[e,f] at b;cases b
   rw[Ee Dr,if_neg e,i j e];exact ⟨n,k,b,Bk _,Bk _,λ _=>⟨rfl,rfl⟩,λ _=>rfl⟩
theorem GB{b hp':Hp}{id:Nat}{o f:AO}(Dr:∀j,get hp' j=if j=id then some f else get b j)
   (g:get b id=some o) (i:f.sg=o.sg):sg hp'=sg b:=by
 funext j
 rw[Ee Dr];by_cases e:j=id
 . subst e;simp[sg,g,i]
 . simp[e]
theorem Rel.freeze(k:Rel c st a w F M){id sz:Nat}{t:AG}{es:Ag}(m:get st.hp id=some (.arr t sz es)):
   Rel c {st with hp:=froze st.hp id} a w (λ b=>F b∨((M id).cap≠0/\b=(M id).Fm)) M:=by
 have E:froze st.hp id=Dn st.hp id (.Oh sz es):=by simp[froze,m]
 have Dr:∀j,get (froze st.hp id) j=if j=id then some (.Oh sz es) else get st.hp j:=λ j=>by rw[E,DH]
 have Lz:sg (froze st.hp id)=sg st.hp:=GB Dr m rfl;have K9:Ea M M (sg st.hp) (sg (froze st.hp id)):=by rw[Lz];exact Ea.refl _ _
 have OT:∀b,F b->(F b∨((M id).cap≠0/\b=(M id).Fm)):=λ b h=> .inl h;constructor
 . intro q d H;exact (k.env q d H).keep (λ _ _=>rfl) OT K9
 . exact k.size
 . exact k.defers
 . constructor
   . intro j o f;rw[Dr] at f;by_cases e:j=id
     . subst e;simp only[B5,Bo] at f;subst f;obtain ⟨n,h2,_,v,y⟩:=k.heap.obj j _ m;refine ⟨n,h2,v,λ l=>?_⟩;obtain ⟨_,row,s,z,B⟩:=y l;exact ⟨.inr ⟨l,rfl⟩,row,t,s.choose,s.choose_spec.1,z,λ i e q x p hx=>(B i e q x p hx).keep (λ _ _=>rfl) OT⟩
     . rw[if_neg e] at f;refine (k.heap.obj j o f).keep (λ _ _=>rfl) OT K9 (λ b DD=>⟨rfl,?_⟩);rintro (h | ⟨l,p⟩)
       . exact k.heap.PH ⟨j,o,f,DD⟩ h
       . exact e (k.heap.inj j o id _ b f m DD ⟨l,p⟩)
   . intro j o u I b f I4 DD FB;rw[Dr] at f I4;by_cases e:j=id
     . rw[if_pos e] at f;cases f;exact DD.elim
     . by_cases r:u=id
       . rw[if_pos r] at I4;cases I4;exact FB.elim
       . rw[if_neg e] at f;rw[if_neg r] at I4;exact k.heap.inj j o u I b f I4 DD FB
 . have g:=k.keep;refine ⟨g.os,g.tape,g.output,g.size,g.Ua,λ b h=> .inl (g.F0 b h),?_,?_,?_,g.sgk.trans K9,g.s0b⟩
   . rintro b (h | ⟨l,rfl⟩)
     . exact g.Fn b h
     . rcases g.own _ ⟨id,_,m,l,rfl⟩ with n | n
       . exact .inr (.inl n)
       . exact .inr (.inr n)
   . rintro b (h | ⟨l,rfl⟩)
     . exact g.Fl b h
     . exact k.heap.lt ⟨id,_,m,l,rfl⟩
   . rintro b ⟨j,o,f,DD⟩;rw[Dr] at f;by_cases e:j=id
     . rw[if_pos e] at f;cases f;exact DD.elim
     . rw[if_neg e] at f;exact g.own _ ⟨j,o,f,DD⟩
theorem Alq.pure{F F':Nat->Prop}{w:AI}{m:Mb}{t:AG}{sz:Nat}{es:Ag}(h:Alq F w m t sz es)(s:∀b,F b->F' b)(hb:m.cap≠0->F' m.Fm){ad:Option Addr}
   (u:m.cap=0∨ad=some ⟨m.Fm,0,none⟩):PR F' w (.sl es) (.slice ad es.length m.cap):=by
 obtain ⟨v,h2,_,n,p⟩:=h;by_cases l:es=[]
 . subst l;exact .sl0 ad m.cap
 . have HO:0<es.length:=Ca.2 l;have g:m.cap≠0:=AQ;obtain ⟨_,row,o,q,r⟩:=p g;obtain rfl:=u.resolve_left g;refine .sl es m.Fm 0 m.cap sz row t o.choose (hb g) o.choose_spec.1 h2 n (λ i e j c f k=>?_) (λ i e j c f k=>by rw[B2];exact (r i e j c f k).keep (λ _ _=>rfl) s);rw[q,B2];exact M7 (Bn.1 f).1 h2 (by have:=n i e f;have:=(Bn.1 k).1;omega)
theorem Rel.Bjv(i:Rel c st a w F M){id sz k:Nat}{t e:AG}{rows:Ay}(l:get st.hp id=some (.Fc t e sz k rows none)):
   Rel c {st with hp:=Dn st.hp id (.Ij (F7 (.Fc sz rows.length k)))} a w (λ b=>F b∨GK (M id) b) M:=by
 have Dr:∀j,get (Dn st.hp id (.Ij (F7 (.Fc sz rows.length k)))) j=if j=id then some (.Ij (F7 (.Fc sz rows.length k))) else get st.hp j:=DH _ _ _
 have Lz:sg (Dn st.hp id (.Ij (F7 (.Fc sz rows.length k))))=sg st.hp:=GB Dr l rfl;have K9:Ea M M (sg st.hp) (sg (Dn st.hp id (.Ij (F7 (.Fc sz rows.length k))))):=by rw[Lz];exact Ea.refl _ _
 have OT:∀b,F b->(F b∨GK (M id) b):=λ b h=> .inl h;constructor
 . intro q d r;exact (i.env q d r).keep (λ _ _=>rfl) OT K9
 . exact i.size
 . exact i.defers
 . constructor
   . intro j o f;rw[Dr] at f;by_cases e:j=id
     . rw[if_pos e] at f;cases f;trivial
     . rw[if_neg e] at f;refine (i.heap.obj j o f).keep (λ _ _=>rfl) OT K9 (λ b DD=>⟨rfl,?_⟩);rintro (h | h)
       . exact i.heap.PH ⟨j,o,f,DD⟩ h
       . exact e (i.heap.inj j o id _ b f l DD h)
   . intro j o p s b f I4 DD FB;rw[Dr] at f I4;by_cases e:j=id
     . rw[if_pos e] at f;cases f;exact DD.elim
     . by_cases n:p=id
       . rw[if_pos n] at I4;cases I4;exact FB.elim
       . rw[if_neg e] at f;rw[if_neg n] at I4;exact i.heap.inj j o p s b f I4 DD FB
 . have g:=i.keep;refine ⟨g.os,g.tape,g.output,g.size,g.Ua,λ b h=> .inl (g.F0 b h),?_,?_,?_,g.sgk.trans K9,g.s0b⟩
   . rintro b (h | h)
     . exact g.Fn b h
     . rcases g.own _ ⟨id,_,l,h⟩ with m | m
       . exact .inr (.inl m)
       . exact .inr (.inr m)
   . rintro b (h | h)
     . exact g.Fl b h
     . exact i.heap.lt ⟨id,_,l,h⟩
   . rintro b ⟨j,o,f,DD⟩;rw[Dr] at f;by_cases e:j=id
     . rw[if_pos e] at f;cases f;exact DD.elim
     . rw[if_neg e] at f;exact g.own _ ⟨j,o,f,DD⟩
theorem WB(K:HR F w M st.hp){id sz k:Nat}{t e:AG}{rows:Ay}{v:AJ}(I:get st.hp id=some (.Fc t e sz k rows none))(h:Xd (M id) 1 rows.length 0 rows.length v):
   PR (λ b=>F b∨GK (M id) b) w (.sl (rows.map λ r=>[.sl r])) v:=by
 have g:MV F w (M id) t e sz rows none:=K.obj id _ I;obtain ⟨q,cap,rfl,Q,h2,R,z⟩:=h;by_cases n:rows=[]
 . subst n;exact .sl0 q cap
 . have HO:0<rows.length:=Ca.2 n;have o:(M id).cap≠0:=by have:=g.le;omega
   obtain ⟨_,row,B,S,E⟩:=g.outer o;have Qn:cap≠0:=AQ;obtain rfl:=z.resolve_left Qn;rw[show rows.length=(rows.map λ r=>([.sl r]:Ax)).length by simp];refine .sl _ (M id).Fm (0*1) cap 1 row t (0,0) (.inr (.inl ⟨o,rfl⟩)) B AW (λ i x hx=>?_) (λ i x j y hx l=>?_) (λ i x j y hx l=>?_)
   . rw[BD] at hx;cases JE:rows[i]? with
     | none=>rw[JE] at hx;cases hx
     | some r=>rw[JE] at hx;cases hx;rfl
   . rw[BD] at hx;cases JE:rows[i]? with
     | none=>rw[JE] at hx;cases hx
     | some r=>
       rw[JE] at hx;cases hx;have p:=(Bn.1 JE).1;have H:=(Bn.1 l).1;have:=g.le;simp at H;omega
   . rw[BD] at hx;cases JE:rows[i]? with
     | none=>rw[JE] at hx;cases hx
     | some r=>
       rw[JE] at hx;cases hx;have p:=(Bn.1 JE).1;have m:i<(M id).xs.length:=by rw[g.xl];exact p
       have f:(M id).xs[i]?=some ((M id).xs[i]):=Bp m;obtain ⟨N,s,u⟩:=E i r _ JE f AT;rcases j with _ | j
       . simp at l;subst l;simp only[Nat.zero_mul,Nat.mul_one,B2,B9];rw[s];exact (g.rows i r _ JE f AT).pure (λ b h=> .inl h) (λ Xx=> .inr (.inr ⟨i,_,f,Xx,rfl⟩)) u
       . simp at l
theorem O5(H:HR F w M st.hp){id off len sz n:Nat}{es:Ag}{v:AJ}(B:(∃t,get st.hp id=some (.arr t sz es))∨get st.hp id=some (.Oh sz es))
   (E:n=es.length) (h:Xd (M id) sz n off len v) {F':Nat->Prop} (z:∀b,F b->F' b) (hb:(M id).cap≠0->F' (M id).Fm):PR F' w (.sl ((es.drop off).take len)) v:=by
 subst E;obtain ⟨I,cap,rfl,K,h2,N,r⟩:=h;obtain ⟨Q,s,k,u⟩:=H.row B;have hlen:((es.drop off).take len).length=len:=AW;by_cases m:len=0
 . subst m;have:(es.drop off).take 0=[]:=AT;rw[this];exact .sl0 _ _
 . have y:=r.resolve_left AQ;subst y;obtain ⟨row,t,l,XB,o,ZY⟩:=u AQ;have Dr:∀(i:Nat) e,((es.drop off).take len)[i]?=some e->es[off+i]?=some e:=λ i e f=>by
     rw[BM] at f;split at f
     . rwa[BX] at f
     . cases f
   have key:=PR.sl (F:=F') (w:=w) ((es.drop off).take len) (M id).Fm (off*sz) cap sz row t l (hb AQ) XB AQ (λ i e f=>k _ e (Dr i e f)) (λ i e j x f hx=>by
     have p:=k _ e (Dr i e f);have q:=(Bn.1 hx).1;have g:=(Bn.1 (Dr i e f)).1;have:=M7 (j:=j) (sz:=sz) g s AQ;rw[B7] at this;omega) (λ i e j x f hx=>by
     have:=ZY _ e j x (Dr i e f) hx;rw[B7] at this;exact this.keep (λ _ _=>rfl) z)
   rw[hlen] at key;exact key
theorem N9(g:Rel c st a w F M){d:D}{v:AJ}(l:DR F w M (sg st.hp) d v){k:Pd->Hp->Prop}(h:PG st.hp d k):
   ∃x h' F',k x h'/\Rel c {st with hp:=h'} a w F' M/\(∀b,F b->F' b)/\sg h'=sg st.hp/\PR F' w x v:=by
 unfold PG at h;cases d with
 | p x=>cases l with | p hx=>exact ⟨x,st.hp,F,h,g,λ _ h=>h,rfl,hx⟩
 | cl r=>cases l with | cl _ y hx _=>exact ⟨_,st.hp,F,h,g,λ _ h=>h,rfl,hx⟩
 | cz r=>cases l with | cz _ y hx=>exact ⟨_,st.hp,F,h,g,λ _ h=>h,rfl,hx⟩
 | ref id off len N=>
   simp only at h;cases l with
   | ref _ _ _ _ E n v i z B h2=>
     cases f:get st.hp id with
     | none=>rw[f] at h;exact h.elim
     | some o=>
       rw[f] at h;cases o with
       | box cs K=>exact h.elim
       | iter _ _=>exact h.elim
       | Ev _ _=>exact h.elim
       | Ij _=>exact h.elim
       | mp _=>exact h.elim
       | Fc _ _ _ _ _ _=>exact h.elim
       | Yo _ _ _ _ _ _=>exact h.elim
       | arr t Va r=>
         obtain ⟨rfl,q⟩:=h;have Lz:=DT f;rw[Lz] at i;simp only[AO.sg,Bo,Sg.arr.injEq] at i;obtain ⟨rfl,rfl⟩:=i;have Dr:∀j,get (froze st.hp id) j=if j=id then some (.Oh Va r) else get st.hp j:=λ j=>by simp[froze,f,DH]
         exact ⟨_,_,_,q,g.freeze f,λ b h=> .inl h,GB Dr f rfl,O5 g.heap (.inl ⟨t,f⟩) rfl (h2 rfl) (λ b h=> .inl h) (λ s=> .inr ⟨s,rfl⟩)⟩
       | Oh Va r=>
         obtain ⟨rfl,q⟩:=h;have Lz:=DT f;rw[Lz] at i;simp only[AO.sg,Bo,Sg.arr.injEq] at i;obtain ⟨rfl,rfl⟩:=i;have u:=g.heap.obj id _ f;exact ⟨_,st.hp,F,q,g,λ b h=>h,rfl,O5 g.heap (.inr f) rfl (h2 rfl) (λ b h=>h) (λ s=>(u.2.2.2 s).1)⟩
 | E3 id n=>
   simp only at h;split at h
   case h_2=>exact h.elim
   rename_i t e E I rows f;obtain ⟨rfl,q⟩:=h;cases l with
   | E3 _ _ ZC m H _ i z B h2=>
     have Vk:=DT f;rw[i] at Vk;simp only[AO.sg,Bo,Sg.Fc.injEq] at Vk;obtain ⟨rfl,rfl,rfl⟩:=Vk;exact ⟨_,_,_,q,g.Bjv f,λ b h=> .inl h,GB (DH _ _ _) f rfl,WB g.heap f (h2 rfl)⟩
 | _=>exact h.elim
theorem S4:∀(ds:Ai) {st:St} {F:Nat->Prop} (vs:At),Rel c st a w F M->Nk F w M (sg st.hp) ds vs->∀{k:Ax->Hp->Prop},Lx st.hp ds k->
   ∃m h' F',k m h'/\Rel c {st with hp:=h'} a w F' M/\(∀b,F b->F' b)/\sg h'=sg st.hp/\m.length=vs.length/\∀(i:Nat) x,m[i]?=some x->PR F' w x (vs.getD i undef)
 | [],st,F,vs,q,f,k,h=>⟨[],st.hp,F,h,q,λ _ h=>h,rfl,by have:=f.1;simpa using this.symm,λ i x hx=>by simp at hx⟩
 | d::ds,st,F,vs,q,f,k,h=>by
   cases vs with
   | nil=>have:=f.1;simp at this
   | cons v vs=>
     simp only[Lx] at h;have o:DR F w M (sg st.hp) d v:=by simpa [List.getD] using f.2 0 d rfl
     obtain ⟨x,r,F1,u,KF,g,l,hx⟩:=N9 q o h;have Tk:Nk F1 w M (sg r) ds vs:=by
       refine ⟨by have:=f.1;simpa using this,λ i e t=>?_⟩;have:=f.2 (i+1) e (by simpa using t);rw[l];have s:DR F w M (sg st.hp) e (vs.getD i undef):=by simpa [List.getD] using this
       exact s.keep (λ _ _=>rfl) g (Ea.refl _ _)
     obtain ⟨m,h2,F2,Sc,JE,j,Vk,p,KL⟩:=S4 ds (st:={st with hp:=r}) vs KF Tk u;refine ⟨x::m,h2,F2,Sc,JE,λ b hb=>j b (g b hb),Vk.trans l,by simp[p],λ i y n=>?_⟩;cases i with
     | zero=>simp only[List.getElem?_cons_zero,Option.some.injEq] at n;subst n;simpa [List.getD] using hx.keep (λ _ _=>rfl) j
     | succ i=>simp only[List.getElem?_cons_succ] at n;simpa [List.getD] using KL i y n
end
end Go.Am
namespace Go.Am
open Go
section
variable {P:AK} {c:Ctx} {st:St} {a:Act} {w:AI} {F:Nat->Prop} {M:Nat->Mb}
theorem alloc_old(w:AI)(o:Obj)(b:Nat)(h:b<w.heap.size):(w.alloc o).heap[b]?=w.heap[b]?:=by
 show (w.heap.push o)[b]?=_
 rw[Array.getElem?_push,if_neg AQ]
theorem DR.Mn{s:Nat->Option Sg}{d:D}{v:AJ}(h:DR F w M s d v)(e:d.one=true):v.oneCell'=true:=by
 cases h with
 | p h=>exact h.Mn
 | agg _ _ _ _=>simp[D.one] at e
 | Em _ _ _ _=>simp[D.one] at e
 | cl _ _ _ _=>rfl
 | cz _ _ _=>rfl
 | ref _ _ _ _ _ _ _ _ _ b _=>obtain ⟨_,_,_,rfl⟩:=b;rfl
 | ptr _ _ _=>rfl
 | np=>rfl
 | mv _ _=>rfl
 | E3 _ _ _ _ _ _ _ _ b _=>obtain ⟨_,_,rfl,_⟩:=b;rfl
 | R9 _ _ _ _ _ _ _ _ _ _ _=>rfl
 | nr _ _ _ _ _ _ _ _ _ _ b _=>obtain ⟨_,_,rfl⟩:=b;rfl
 | pe _ _ _ _ _ _ _ _ _ _=>rfl
 | ea _ _ _ _ _ _ _ _ _ b _=>obtain ⟨_,rfl⟩:=b;rfl
 | fn _ _ _ _ _=>rfl
 | WE _ h=>exact h
 | bad _=>simp[D.one] at e
theorem Nk.keep{F':Nat->Prop}{w':AI}{M':Nat->Mb}{s e:Nat->Option Sg}{cs:Ai}{vs:At}(h:Nk F w M s cs vs)
   (k:∀b,F b->w'.heap[b]?=w.heap[b]?) (f:∀b,F b->F' b) (j:Ea M M' s e):Nk F' w' M' e cs vs:=
 ⟨h.1,λ i c g=>(h.2 i c g).keep k f j⟩
def I2(M:Nat->Mb)(q:Nat)(m:Mb):Nat->Mb:=λ j=>if j=q then m else M j
theorem Rw(h:Hp)(q:Nat)(o:AO)(j:Nat):get ((q,o)::h) j=if j=q then some o else get h j:=by
 rw[Dj];by_cases e:j=q
 . simp[e]
 . rw[if_neg e,if_neg (CK e)]
theorem Rel.Bct(f:Rel c st a w F M){q:Nat}{cs:Ai}{vs:Array Value}(t ty:AG)(g:W8 ty t=t)(o:get st.hp q=none)(k:Nk F w M (sg st.hp) cs vs.toList)(l:cs.all D.one=true)(hx:Exa ty cs vs):
   Rel c {st with hp:=(q,.box cs ty)::st.hp} a (w.alloc (.cells vs t)) F (I2 M q ⟨w.heap.size,0,[]⟩)/\
   DR F (w.alloc (.cells vs t)) (I2 M q ⟨w.heap.size,0,[]⟩) (sg ((q,.box cs ty)::st.hp)) (.ptr q 0) (.pointer (some ⟨w.heap.size,0,none⟩)):=by
 have Dr:=Rw st.hp q (.box cs ty);have i:∀j,j≠q->I2 M q ⟨w.heap.size,0,[]⟩ j=M j:=λ j e=>by simp[I2,e]
 have Mo:I2 M q ⟨w.heap.size,0,[]⟩ q=⟨w.heap.size,0,[]⟩:=by simp[I2]
 have K9:=Je Dr i o;have hold:∀b,b<w.heap.size->(w.alloc (.cells vs t)).heap[b]?=w.heap[b]?:=λ b hb=>alloc_old w _ b hb;refine ⟨f.change Dr i K9 rfl rfl rfl AT (λ b hb _=>hold b hb) ?_ (λ b hb=> .inr (by have:b=_:=hb;rw[this,Mo];exact Bk _)),?_⟩
 . rw[Mo];refine ⟨λ n=>Nat.lt_irrefl _ (f.keep.Fl _ n),vs,t,by rw[g];exact heap_alloc_new w _,by have:=k.1;simpa using this,λ j d e=>?_,hx⟩;have h2:=k.2 j d e;have m:vs.toList.getD j undef=vs.getD j undef:=by simp[List.getD,Bs]
   rw[m] at h2;exact ⟨h2.keep (λ b hb=>hold b (f.keep.Fl b hb)) (λ _ h=>h) K9,h2.Mn (BB.1 l d (Bt e))⟩
 . have:=DR.ptr (F:=F) (w:=w.alloc (.cells vs t)) (M:=I2 M q ⟨w.heap.size,0,[]⟩) (s:=sg ((q,.box cs ty)::st.hp)) q 0 (by rw[Ee Dr];simp[AO.sg]);rwa[Mo] at this
theorem N5{t:AG}{i:AP}{z:AJ}(b:P.info? t=some i)(e:i.zero=some z)(w:AI):(zeroValue t).run P w= .ok z w:=by
 simp[zeroValue,typeInfo,b,e]
theorem Q7{s:Nat->Option Sg}{d:D}{v:AJ}(h:DR F w M s d v){cs:Ai}(b:d.stored=some cs):cs=d.cells/\cs.all D.one=true/\Nk F w M s cs v.cells.toList:=by
 unfold D.stored at b;split at b
 . rename_i e;cases b;exact ⟨rfl,e,h.cells (.inl e)⟩
 . cases b
theorem Rel.Bj5(g:Rel c st a w F M){q cap sz:Nat}{es:Ag}{vs:Array Value}{e:AG}{w':AI}(s:get st.hp q=none)
   (v:Wo w' w.heap.size e vs) (k:w'.heap.size=w.heap.size+1) (hold:∀b,b<w.heap.size->w'.heap[b]?=w.heap[b]?) (f:w'.os=w.os) (Xm:w'.tape=w.tape) (Aag:w'.output=w.output)
   (HK:0<sz) (m:es.length<=cap) (r:cap<=maxLen) (p:∀(i:Nat) x,es[i]?=some x->x.length=sz) (u:vs.size=cap*sz)
   (hp:∀(i:Nat) x (j:Nat) y,es[i]?=some x->x[j]?=some y->PR F w y (vs.getD (i*sz+j) undef)):
   Rel c {st with hp:=(q,.arr e sz es)::st.hp} a w' F (I2 M q ⟨w.heap.size,cap,[]⟩)/\
   DR F w' (I2 M q ⟨w.heap.size,cap,[]⟩) (sg ((q,.arr e sz es)::st.hp)) (.ref q 0 es.length es.length) (.slice (some ⟨w.heap.size,0,none⟩) es.length cap):=by
 have Dr:=Rw st.hp q (.arr e sz es);have l:∀j,j≠q->I2 M q ⟨w.heap.size,cap,[]⟩ j=M j:=λ j o=>by simp[I2,o]
 have Mo:I2 M q ⟨w.heap.size,cap,[]⟩ q=⟨w.heap.size,cap,[]⟩:=by simp[I2]
 have K9:=Je Dr l s;have t:sg ((q,.arr e sz es)::st.hp) q=some (.arr sz es.length):=by rw[Ee Dr];simp[AO.sg]
 refine ⟨g.change Dr l K9 f Xm Aag (by rw[k];exact Nat.le_succ _) (λ b hb _=>hold b hb) ?_ (λ b hb=> .inr (by have:b=_:=hb.2;rw[this,Mo];exact Bk _)),?_⟩
 . rw[Mo];refine ⟨HK,m,r,p,λ _=>⟨λ n=>Nat.lt_irrefl _ (g.keep.Fl _ n),vs,v,u,λ i x j y hx z=>?_⟩⟩;exact (hp i x j y hx z).keep (λ b hb=>hold b (g.keep.Fl b hb)) (λ _ h=>h)
 . refine .ref q 0 es.length es.length sz es.length _ t (Bk _) ⟨_,_,_,rfl⟩ (λ _=>⟨_,cap,rfl,AQ,m,by rw[Mo];exact B2 _,.inr (by rw[Mo];simp)⟩)
theorem Rel.Ach(o:Rel c st a w F M){q cap sz:Nat}{es:Ag}{vs:Array Value}{e:AG}{w':AI}(n:get st.hp q=none)
   (g:w'.heap=(w.alloc (.cells vs e)).heap) (f:w'.os=w.os) (Xm:w'.tape=w.tape) (Aag:w'.output=w.output)
   (HK:0<sz) (k:es.length<=cap) (m:cap<=maxLen) (l:∀(i:Nat) x,es[i]?=some x->x.length=sz) (p:vs.size=cap*sz)
   (hp:∀(i:Nat) x (j:Nat) y,es[i]?=some x->x[j]?=some y->PR F w y (vs.getD (i*sz+j) undef)):
   Rel c {st with hp:=(q,.arr e sz es)::st.hp} a w' F (I2 M q ⟨w.heap.size,cap,[]⟩)/\
   DR F w' (I2 M q ⟨w.heap.size,cap,[]⟩) (sg ((q,.arr e sz es)::st.hp)) (.ref q 0 es.length es.length) (.slice (some ⟨w.heap.size,0,none⟩) es.length cap):=
 o.Bj5 n (.of0 (by rw[g];exact heap_alloc_new w _)) (by rw[g];simp) (λ b hb=>by rw[g];exact alloc_old w _ b hb) f Xm Aag HK k m l p hp
theorem RA{α:Type}(sz:Nat):∀(n:Nat) (l:List α),(chunk sz n l).length=n
 | 0,_=>rfl
 | n+1,l=>by simp[chunk,RA sz n]
theorem Zd{α:Type}(sz:Nat):∀(n:Nat) (l:List α) (i:Nat),(chunk sz n l)[i]?=if i<n then some ((l.drop (i*sz)).take sz) else none
 | 0,_,i=>by simp[chunk]
 | n+1,l,0=>by simp[chunk]
 | n+1,l,i+1=>by
   simp only[chunk,List.getElem?_cons_succ,Zd sz n,List.drop_drop];by_cases h:i<n
   . rw[if_pos h,if_pos AQ]
     congr 3
     rw[B7];omega
   . rw[if_neg h,if_neg AQ]
theorem Bd4(ty t:AG)(cs:Ai):W8 (Qj ty cs) (W8 ty t)=W8 ty t:=by
 cases ty with
 | zero=>simp[Qj,W8]
 | succ n=>
   simp only[Qj,W8];split<;>simp_all
theorem Awt(ty:AG)(cs:Ai)(row:Array Value):Exa (Qj ty cs) cs row:=by
 intro h b;cases ty with
 | zero=>exact (h rfl).elim
 | succ n=>simp[Qj,b] at h
theorem Rel.Ams(s:Rel c st a w F M){id off:Nat}{f cs:Ai}{ty:AG}{vs:At}(m:get st.hp id=some (.box f ty))(n:Nk F w M (sg st.hp) cs vs)(y:cs.all D.one=true)
   (B:off+cs.length<=f.length):
   ∃w',(storeCells ⟨(M id).Fm,off,none⟩ vs).run P w= .ok () w'/\Rel c {st with hp:=Dn st.hp id (.box (f.take off++cs++f.drop (off+cs.length)) (Qj ty (f.take off++cs++f.drop (off+cs.length))))} a w' F M:=by
 obtain ⟨V3,row,t,Ek,La,D4⟩:=s.heap.obj id _ m;have l:vs.length=cs.length:=n.1;have UJ:∀v∈vs,v.oneCell'=true:=λ v p=>by
   obtain ⟨i,g⟩:=B8.1 p;have Dv:=(Bn.1 g).1;have q:cs[i]?=some (cs[i]'AQ):=Bp AQ;have:=(n.2 i _ q).Mn (BB.1 y _ (Bt q));rwa[Bu,g] at this
 have Ly:=run_storeCells_at P (M id).Fm off (W8 ty t) vs 0 row w Ek AQ UJ;simp only[B9] at Ly;refine ⟨_,Ly,?_⟩;have Dr:∀j,get (Dn st.hp id (.box (f.take off++cs++f.drop (off+cs.length)) (Qj ty (f.take off++cs++f.drop (off+cs.length))))) j=if j=id then some (.box (f.take off++cs++f.drop (off+cs.length)) (Qj ty (f.take off++cs++f.drop (off+cs.length)))) else get st.hp j:=DH _ _ _
 have Lz:=GB Dr m rfl;refine s.change (M':=M) Dr (λ _ _=>rfl) (by rw[Lz];exact Ea.refl _ _) rfl rfl rfl AT (λ b hb EG=>setRow_other w _ b _ (EG _ m)) ?_ (λ b hb=> .inl ⟨_,m,hb⟩);have LA:∀{d v},DR F w M (sg st.hp) d v->DR F (w.setRow (M id).Fm (row.toList.take off++vs++row.toList.drop (off+vs.length)).toArray) M (sg (Dn st.hp id (.box (f.take off++cs++f.drop (off+cs.length)) (Qj ty (f.take off++cs++f.drop (off+cs.length)))))) d v:=by
   intro d v h;rw[Lz];exact h.keep (λ b hb=>setRow_other w _ b _ (λ e=>V3 (e ▸ hb))) (λ _ h=>h) (Ea.refl _ _)
 refine ⟨V3,_,W8 ty t,by rw[Bd4];exact setRow_heap w _ _ _ (W8 ty t) (0,0) Ek,?_,λ j d r=>?_,Awt _ _ _⟩
 . simp[l,La]
 . have k:Nk F w M (sg st.hp) f row.toList:=⟨by simpa using La,λ i e z=>by have:=(D4.1 i e z).1;simpa [List.getD,Array.getD_eq_getD_getElem?] using this⟩;have FE:=((k.take off).append n).append (k.drop (off+cs.length));have o:=FE.2 j d r;have u:((row.toList.take off++vs++row.toList.drop (off+vs.length)).toArray).getD j undef=(row.toList.take off++vs++row.toList.drop (off+cs.length)).getD j undef:=by
     rw[l];simp[List.getD,Bs]
   rw[u];refine ⟨LA o,?_⟩;have Anx:∀v∈row.toList,v.oneCell'=true:=λ v p=>by
     obtain ⟨i,g⟩:=B8.1 p;have Dv:=(Bn.1 g).1;simp only[Array.length_toList] at Dv;have:=(D4.1 i _ (Bp AQ)).2;have x:row[i]?=some v:=by simpa using g
     rwa[Bs,x] at this
   have Dv:j<(row.toList.take off++vs++row.toList.drop (off+cs.length)).length:=by rw[FE.1];exact (Bn.1 r).1
   rw[Bu,Bp Dv];have JN:(row.toList.take off++vs++row.toList.drop (off+cs.length))[j]∈row.toList.take off++vs++row.toList.drop (off+cs.length):=Cm Dv;rw[BC,BC] at JN;simp only[BP];rcases JN with (JN | JN) | JN
   . exact Anx _ (CB JN)
   . exact UJ _ JN
   . exact Anx _ (List.mem_of_mem_drop JN)
theorem Rel.Bc9(K:Rel c st a w F M){id i q sz:Nat}{e:AG}{es:Ag}{g:Ax}{vs:At}(s:get st.hp id=some (.arr e sz es))(H:i<es.length)
   (V:g.length=vs.length) (hx:∀(j:Nat) x,g[j]?=some x->PR F w x (vs.getD j undef)) (W:q+g.length<=sz):
   ∃w',(storeCells ⟨(M id).Fm,i*sz+q,none⟩ vs).run P w= .ok () w'/\
     Rel c {st with hp:=Dn st.hp id (.arr e sz (es.set i ((es.getD i []).take q++g++(es.getD i []).drop (q+g.length))))} a w' F M:=by
 obtain ⟨N,h2,LC,t,Q⟩:=K.heap.obj id _ s;have Qn:(M id).cap≠0:=AQ;obtain ⟨V3,row,Ek,La,D4⟩:=Q Qn;have n:es[i]?=some (es.getD i []):=by simp[List.getD,H]
 have hlen:=t i _ n;have UJ:∀v∈vs,v.oneCell'=true:=λ v T=>by
   obtain ⟨j,I⟩:=B8.1 T;have Dv:=(Bn.1 I).1;have:=(hx j _ (Bp AQ)).Mn;rwa[Bu,I] at this
 have Boe:i*sz+sz<=row.size:=by
   have o:(i+1)*sz<=(M id).cap*sz:=CA _ AQ;rw[B7] at o;omega
 have Ly:=Iv P (M id).Fm (i*sz+q) e vs 0 row w Ek AQ UJ;simp only[B9] at Ly;refine ⟨_,Ly,?_⟩;have Dr:∀j,get (Dn st.hp id (.arr e sz (es.set i ((es.getD i []).take q++g++(es.getD i []).drop (q+g.length))))) j=if j=id then some (.arr e sz (es.set i ((es.getD i []).take q++g++(es.getD i []).drop (q+g.length)))) else get st.hp j:=DH _ _ _
 have Lz:=GB Dr s (by simp[AO.sg]);refine K.change (M':=M) Dr (λ _ _=>rfl) (by rw[Lz];exact Ea.refl _ _) rfl rfl rfl AT (λ b hb EG=>setRow_other w _ b _ (λ e=>EG _ s ⟨Qn,e⟩)) ?_ (λ b hb=> .inl ⟨_,s,hb⟩);have z:((es.getD i []).take q++g++(es.getD i []).drop (q+g.length)).length=sz:=by
   rw[Bw,Bw,BK,List.length_drop];omega
 refine ⟨N,by simpa using h2,LC,λ k x f=>?_,λ _=>⟨V3,_,Ek.set AW,AW,λ k x j y f l=>?_⟩⟩
 . rw[BG] at f;by_cases m:i=k
   . rw[if_pos m,if_pos AQ] at f;simp only[Bo] at f;rw[<-f];exact z
   . rw[if_neg m] at f;exact t k x f
 . have LA:∀{x v},PR F w x v->PR F (w.setRow (M id).Fm (row.toList.take (i*sz+q)++vs++row.toList.drop (i*sz+q+vs.length)).toArray) x v:=
     λ h=>h.keep (λ b hb=>setRow_other w _ b _ (λ e=>V3 (e ▸ hb))) (λ _ h=>h)
   have Rr:∀p,((row.toList.take (i*sz+q)++vs++row.toList.drop (i*sz+q+vs.length)).toArray).getD p undef=
       if p<i*sz+q then row.getD p undef else if p<i*sz+q+vs.length then vs.getD (p - (i*sz+q)) undef else row.getD p undef:=by
     intro p;have r:(row.toList.take (i*sz+q)).length=i*sz+q:=AW;rw[Bs,Bs,Bu];simp only[CM];by_cases m:p<i*sz+q
     . rw[if_pos m,Cr,Cw AQ,BM,if_pos m];simp
     . rw[if_neg m];by_cases B:p<i*sz+q+vs.length
       . rw[if_pos B,Cr,CI AQ,r,Cw AQ]
       . rw[if_neg B,CI AW,BX];simp only[Bw,r];rw[show i*sz+q+vs.length+(p - (i*sz+q+vs.length))=p from by omega];simp
   rw[Rr];rw[BG] at f;by_cases m:i=k
   . subst m;rw[if_pos rfl,if_pos H] at f;simp only[Bo] at f;subst f;rw[Cr,BZ] at l;have r:((es.getD i []).take q).length=q:=by rw[BK];omega
     rw[r] at l;split at l
     . rename_i Dv;rw[if_pos AQ];rw[BM,if_pos Dv] at l;exact LA (D4 i _ j y n l)
     . rename_i R;rw[if_neg AQ];rw[BZ] at l;split at l
       . rename_i Dv;rw[if_pos AQ];have:=hx _ y l;rw[show i*sz+j - (i*sz+q)=j - q from by omega];exact LA this
       . rename_i E;rw[if_neg AQ];rw[BX] at l;have:=D4 i _ _ y n l;rw[show i*sz+(q+g.length+(j - q - g.length))=i*sz+j from by omega] at this;exact LA this
   . rw[if_neg m] at f;have U:=t k x f;have S:=(Bn.1 l).1;have:=LA (D4 k x j y f l);rcases Nat.lt_or_ge k i with u | u
     . have o:(k+1)*sz<=i*sz:=CA _ AQ;rw[B7] at o;rw[if_pos AQ];exact this
     . have o:(i+1)*sz<=k*sz:=CA _ AQ;rw[B7] at o;rw[if_neg AQ,if_neg AQ];exact this
end
end Go.Am
namespace Go.Am
open Go
section
variable {P:AK} {c:Ctx} {st:St} {a:Act} {w:AI} {F:Nat->Prop} {M:Nat->Mb}
theorem Rel.Bcw(g:Rel c st a w F M){hp':Hp}{M':Nat->Mb}(Lz:Ea M M' (sg st.hp) (sg hp'))
   (Bdq:∀j o,get hp' j=some o->(get st.hp j=some o/\M' j=M j)∨UN F w M' (sg hp') (M' j) o)
   (DD:∀j o b,get hp' j=some o->o.JM (M' j) b->Hn M st.hp b)
   (YT:∀j o i k b,get hp' j=some o->get hp' i=some k->o.JM (M' j) b->k.JM (M' i) b->j=i):Rel c {st with hp:=hp'} a w F M':=by
 constructor
 . intro t d p;exact (g.env t d p).keep (λ _ _=>rfl) (λ _ h=>h) Lz
 . exact g.size
 . exact g.defers
 . refine ⟨λ j o n=>?_,λ j o i k b f h2 l m=>YT j o i k b f h2 l m⟩;rcases Bdq j o n with ⟨f,h2⟩ | f
   . rw[h2];exact (g.heap.obj j o f).keep (λ _ _=>rfl) (λ _ h=>h) Lz (λ b hb=>⟨rfl,g.heap.PH ⟨j,o,f,hb⟩⟩)
   . exact f
 . have e:=g.keep;refine ⟨e.os,e.tape,e.output,e.size,e.Ua,e.F0,e.Fn,e.Fl,?_,e.sgk.trans Lz,e.s0b⟩;rintro b ⟨j,o,f,h2⟩;exact e.own b (DD j o b f h2)
theorem G9{l:Al}{i j:Nat}{x y:Nat×Nat}(h:(l.set i x)[j]?=some y):(i=j/\y=x)∨(i≠j/\l[j]?=some y):=by
 rw[BG] at h;split at h
 . rename_i e;split at h
   . simp only[Bo] at h;exact .inl ⟨e,h.symm⟩
   . cases h
 . rename_i e;exact .inr ⟨e,h⟩
theorem Rel.By5(H:Rel c st a w F M){id i q:Nat}{t e:AG}{sz k:Nat}{rows:Ay}{r:Ag}(z:get st.hp id=some (.Fc t e sz k rows none))(U:rows[i]?=some r)
   (Q:get st.hp q=none):∃l,(M id).xs[i]?=some l/\
     Ea M (λ j=>if j=q then ⟨l.1,l.2,[]⟩ else if j=id then {(M id) with xs:=(M id).xs.set i (0,0)} else M j) (sg st.hp) (sg ((q,AO.arr e sz r)::Dn st.hp id (.Fc t e sz (k+1) rows (some i))))/\
     Rel c {st with hp:=(q,.arr e sz r)::Dn st.hp id (.Fc t e sz (k+1) rows (some i))} a w F (λ j=>if j=q then ⟨l.1,l.2,[]⟩ else if j=id then {(M id) with xs:=(M id).xs.set i (0,0)} else M j):=by
 have v:MV F w (M id) t e sz rows none:=H.heap.obj id _ z;have Dv:i<rows.length:=(Bn.1 U).1;have Bs1:i<(M id).xs.length:=by rw[v.xl];exact Dv
 obtain ⟨l,p⟩:∃l,(M id).xs[i]?=some l:=⟨_,Bp Bs1⟩;have Ad2:q≠id:=λ e=>by rw[e,z] at Q;cases Q
 refine ⟨l,p,?_⟩;generalize y:(λ j=>if j=q then (⟨l.1,l.2,[]⟩:Mb) else if j=id then {(M id) with xs:=(M id).xs.set i (0,0)} else M j)=M';have Mo:M' q=⟨l.1,l.2,[]⟩:=by rw[<-y];simp
 have Qo:M' id={(M id) with xs:=(M id).xs.set i (0,0)}:=by rw[<-y];simp[CK Ad2]
 have Ug:∀j,j≠q->j≠id->M' j=M j:=λ j f h2=>by rw[<-y];simp[f,h2]
 have Dr:∀j,get ((q,AO.arr e sz r)::Dn st.hp id (.Fc t e sz (k+1) rows (some i))) j=if j=q then some (.arr e sz r) else if j=id then some (.Fc t e sz (k+1) rows (some i)) else get st.hp j:=by
   intro j;rw[Dj,DH];by_cases h:q=j
   . subst h;simp
   . rw[if_neg h,if_neg (CK h)]
 have YP:sg st.hp id=some (.Fc sz rows.length k):=by simp[sg,z,AO.sg]
 have K9:Ea M M' (sg st.hp) (sg ((q,AO.arr e sz r)::Dn st.hp id (.Fc t e sz (k+1) rows (some i)))):=by
   have EG:∀j s,sg st.hp j=some s->j≠q:=λ j s V e=>by rw[e] at V;simp[sg,Q] at V
   refine ⟨λ j g=>?_,λ j s2 R g=>?_,λ j s2 R k2 g=>?_⟩
   . have f:=EG j _ g;have h2:j≠id:=λ e=>by rw[e,YP] at g;cases g
     refine ⟨?_,by rw[Ug j f h2]⟩;unfold sg at g ⊢;rw[Dr,if_neg f,if_neg h2];exact g
   . have f:=EG j _ g;have h2:j≠id:=λ e=>by rw[e,YP] at g;cases g
     refine ⟨R,?_,Bk _,λ _=>Ug j f h2⟩;unfold sg at g ⊢;rw[Dr,if_neg f,if_neg h2];exact g
   . have f:=EG j _ g;by_cases h2:j=id
     . subst h2;rw[YP] at g;simp only[Bo,Sg.Fc.injEq] at g;obtain ⟨rfl,rfl,rfl⟩:=g;refine ⟨_,k+1,?_,Bk _,Nat.le_succ _,λ _=>by rw[Qo];exact ⟨rfl,rfl⟩,λ h=>AQ⟩;unfold sg;rw[Dr,if_neg f,if_pos rfl];rfl
     . refine ⟨R,k2,?_,Bk _,Bk _,λ _=>by rw[Ug j f h2];exact ⟨rfl,rfl⟩,λ _=>by rw[Ug j f h2]⟩;unfold sg at g ⊢;rw[Dr,if_neg f,if_neg h2];exact g
 have Bzk:Alq F w ⟨l.1,l.2,[]⟩ e sz r:=v.rows i r l U p AT;have N:MV F w (M' id) t e sz rows (some i):=by
   rw[Qo];refine ⟨v.pos,by simp[v.xl],v.le,v.max,λ hc=>?_,λ j T x f h2 n=>?_,λ j x f h2=>?_,λ j1 j2 W Y f h2 n m B=>?_,λ j x f h2 n=>?_⟩
   . obtain ⟨g1,row,g2,g3,g4⟩:=v.outer hc;refine ⟨g1,row,g2,g3,λ j T x f h2 n=>?_⟩;rcases G9 h2 with ⟨m,_⟩ | ⟨_,m⟩
     . exact (n (by rw[m])).elim
     . exact g4 j T x f m AT
   . rcases G9 h2 with ⟨m,_⟩ | ⟨_,m⟩
     . exact (n (by rw[m])).elim
     . exact v.rows j T x f m AT
   . rcases G9 h2 with ⟨_,m⟩ | ⟨m,_⟩
     . rw[m]
     . exact (m (Bf f)).elim
   . rcases G9 f with ⟨_,u⟩ | ⟨_,u⟩
     . rw[u] at m;exact (m rfl).elim
     . rcases G9 h2 with ⟨_,K⟩ | ⟨_,K⟩
       . rw[K] at B;exact (B rfl).elim
       . exact v.dis j1 j2 W Y u K n m B
   . rcases G9 f with ⟨_,u⟩ | ⟨_,u⟩
     . rw[u] at h2;exact (h2 rfl).elim
     . exact v.out j x u h2 n
 have Ta:∀b,GK (M' id) b->GK (M id) b/\¬(l.2≠0/\b=l.1):=by
   intro b hb;rw[Qo] at hb;rcases hb with ⟨f,h2⟩ | ⟨j,x,f,h2,n⟩
   . exact ⟨.inl ⟨f,h2⟩,λ n=>v.out i l p n.1 f (n.2.symm.trans h2)⟩
   . rcases G9 f with ⟨_,u⟩ | ⟨Z,u⟩
     . rw[u] at h2;exact (h2 rfl).elim
     . exact ⟨.inr ⟨j,x,u,h2,n⟩,λ m=>v.dis i j l x p u Z m.1 h2 (m.2.symm.trans n)⟩
 have Bix:∀b,(AO.arr e sz r).JM (M' q) b->l.2≠0/\b=l.1:=λ b hb=>by rw[Mo] at hb;exact hb
 refine ⟨K9,H.Bcw K9 (λ j o g=>?_) (λ j o b g hb=>?_) (λ j o I S b g I4 hb YU=>?_)⟩
 . rw[Dr] at g;split at g
   . rename_i f;subst f;cases g;right;rw[Mo];exact Bzk
   . split at g
     . rename_i h2;subst h2;cases g;exact .inr N
     . rename_i f h2;exact .inl ⟨g,Ug j f h2⟩
 . rw[Dr] at g;split at g
   . rename_i f;subst f;cases g;exact ⟨id,_,z,.inr ⟨i,l,p,Bix b hb⟩⟩
   . split at g
     . rename_i h2;subst h2;cases g;exact ⟨j,_,z,(Ta b hb).1⟩
     . rename_i f h2;rw[Ug j f h2] at hb;exact ⟨j,o,g,hb⟩
 . rw[Dr] at g I4;have Ua:∀j o,j≠q->j≠id->get st.hp j=some o->o.JM (M' j) b->GK (M id) b->False:=λ j o f h2 n m B=>by
     rw[Ug j f h2] at m;exact h2 (H.heap.inj j o id _ b n z m B)
   split at g
   . rename_i f;subst f;cases g;have E:=Bix b hb;split at I4
     . rename_i Hc;exact Hc.symm
     . split at I4
       . rename_i LC;subst LC;cases I4;exact ((Ta b YU).2 E).elim
       . rename_i Hc LC;exact (Ua I S Hc LC I4 YU (.inr ⟨i,l,p,E⟩)).elim
   . rename_i f;split at g
     . rename_i h2;subst h2;cases g;split at I4
       . rename_i Hc;subst Hc;cases I4;exact ((Ta b hb).2 (Bix b YU)).elim
       . split at I4
         . rename_i LC;exact LC.symm
         . rename_i Hc LC;exact (Ua I S Hc LC I4 YU (Ta b hb).1).elim
     . rename_i h2;split at I4
       . rename_i Hc;subst Hc;cases I4;exact (Ua j o f h2 g hb (.inr ⟨i,l,p,Bix b YU⟩)).elim
       . split at I4
         . rename_i LC;subst LC;cases I4;exact (Ua j o f h2 g hb (Ta b YU).1).elim
         . rename_i Hc LC;rw[Ug j f h2] at hb;rw[Ug I Hc LC] at YU;exact H.heap.inj j o I S b g I4 hb YU
theorem Afu{b:Hp}{id:Nat}{o:AO}(h:get b id=some o)(j:Nat):get (Dn b id o) j=get b j:=by
 rw[DH];split
 . rename_i e;rw[e,h]
 . rfl
theorem Rel.drop(v:Rel c st a w F M){id i:Nat}{t e:AG}{sz k:Nat}{rows:Ay}(u:get st.hp id=some (.Fc t e sz k rows none))(hi:i<rows.length):
   Rel c {st with hp:=Dn st.hp id (.Fc t e sz (k+1) rows (some i))} a w F (λ j=>if j=id then {(M id) with xs:=(M id).xs.set i (0,0)} else M j):=by
 have q:MV F w (M id) t e sz rows none:=v.heap.obj id _ u;generalize s:(λ j=>if j=id then {(M id) with xs:=(M id).xs.set i (0,0)} else M j)=M';have Qo:M' id={(M id) with xs:=(M id).xs.set i (0,0)}:=by rw[<-s];simp
 have Ug:∀j,j≠id->M' j=M j:=λ j h=>by rw[<-s];simp[h]
 have Dr:∀j,get (Dn st.hp id (.Fc t e sz (k+1) rows (some i))) j=if j=id then some (.Fc t e sz (k+1) rows (some i)) else get st.hp j:=DH _ _ _
 have YP:sg st.hp id=some (.Fc sz rows.length k):=by simp[sg,u,AO.sg]
 have K9:Ea M M' (sg st.hp) (sg (Dn st.hp id (.Fc t e sz (k+1) rows (some i)))):=by
   refine ⟨λ j f=>?_,λ j Y B f=>?_,λ j Y B W f=>?_⟩
   . have h2:j≠id:=λ e=>by rw[e,YP] at f;cases f
     refine ⟨?_,by rw[Ug j h2]⟩;unfold sg at f ⊢;rw[Dr,if_neg h2];exact f
   . have h2:j≠id:=λ e=>by rw[e,YP] at f;cases f
     refine ⟨B,?_,Bk _,λ _=>Ug j h2⟩;unfold sg at f ⊢;rw[Dr,if_neg h2];exact f
   . by_cases h2:j=id
     . subst h2;rw[YP] at f;simp only[Bo,Sg.Fc.injEq] at f;obtain ⟨rfl,rfl,rfl⟩:=f;refine ⟨_,k+1,?_,Bk _,Nat.le_succ _,λ _=>by rw[Qo];exact ⟨rfl,rfl⟩,λ h=>AQ⟩;unfold sg;rw[Dr,if_pos rfl];rfl
     . refine ⟨B,W,?_,Bk _,Bk _,λ _=>by rw[Ug j h2];exact ⟨rfl,rfl⟩,λ _=>by rw[Ug j h2]⟩;unfold sg at f ⊢;rw[Dr,if_neg h2];exact f
 have y:MV F w (M' id) t e sz rows (some i):=by
   rw[Qo];refine ⟨q.pos,by simp[q.xl],q.le,q.max,λ T=>?_,λ j E p l h2 n=>?_,λ j p l h2=>?_,λ U V I K l h2 n g r=>?_,λ j p l h2 n=>?_⟩
   . obtain ⟨N,row,Q,R,S⟩:=q.outer T;refine ⟨N,row,Q,R,λ j E p l h2 n=>?_⟩;rcases G9 h2 with ⟨g,_⟩ | ⟨_,g⟩
     . exact (n (by rw[g])).elim
     . exact S j E p l g AT
   . rcases G9 h2 with ⟨g,_⟩ | ⟨_,g⟩
     . exact (n (by rw[g])).elim
     . exact q.rows j E p l g AT
   . rcases G9 h2 with ⟨_,g⟩ | ⟨g,_⟩
     . rw[g]
     . exact (g (Bf l)).elim
   . rcases G9 l with ⟨_,m⟩ | ⟨_,m⟩
     . rw[m] at g;exact (g rfl).elim
     . rcases G9 h2 with ⟨_,x⟩ | ⟨_,x⟩
       . rw[x] at r;exact (r rfl).elim
       . exact q.dis U V I K m x n g r
   . rcases G9 l with ⟨_,m⟩ | ⟨_,m⟩
     . rw[m] at h2;exact (h2 rfl).elim
     . exact q.out j p m h2 n
 have Ta:∀b,GK (M' id) b->GK (M id) b:=by
   intro b hb;rw[Qo] at hb;rcases hb with ⟨l,h2⟩ | ⟨j,p,l,h2,n⟩
   . exact .inl ⟨l,h2⟩
   . rcases G9 l with ⟨_,m⟩ | ⟨Z,m⟩
     . rw[m] at h2;exact (h2 rfl).elim
     . exact .inr ⟨j,p,m,h2,n⟩
 refine v.Bcw K9 (λ j o f=>?_) (λ j o b f hb=>?_) (λ j o z H b f I4 hb YU=>?_)
 . rw[Dr] at f;split at f
   . rename_i h2;subst h2;cases f;exact .inr y
   . rename_i h2;exact .inl ⟨f,Ug j h2⟩
 . rw[Dr] at f;split at f
   . rename_i h2;subst h2;cases f;exact ⟨j,_,u,Ta b hb⟩
   . rename_i h2;rw[Ug j h2] at hb;exact ⟨j,o,f,hb⟩
 . rw[Dr] at f I4;have Ua:∀j o,j≠id->get st.hp j=some o->o.JM (M' j) b->GK (M' id) b->False:=λ j o h2 n g r=>by
     rw[Ug j h2] at g;exact h2 (v.heap.inj j o id _ b n u g (Ta b r))
   split at f
   . rename_i h2;subst h2;cases f;split at I4
     . rename_i LC;exact LC.symm
     . rename_i LC;exact (Ua z H LC I4 YU hb).elim
   . rename_i h2;split at I4
     . rename_i LC;subst LC;cases I4;exact (Ua j o h2 f hb YU).elim
     . rename_i LC;rw[Ug j h2] at hb;rw[Ug z LC] at YU;exact v.heap.inj j o z H b f I4 hb YU
theorem Rel.Bc8(u:Rel c st a w F M){id i:Nat}{t e:AG}{sz k:Nat}{rows:Ay}(n:get st.hp id=some (.Fc t e sz k rows (some i)))(I:i<rows.length)(v:AJ)(z:v.oneCell'=true):
   ∃w',(storeCells ⟨(M id).Fm,i,none⟩ [v]).run P w= .ok () w'/\Rel c st a w' F M/\∃row,w'.heap[(M id).Fm]?=some (.cells row t (0,0))/\row.size=(M id).cap/\row.getD i undef=v:=by
 have f:MV F w (M id) t e sz rows (some i):=u.heap.obj id _ n;have Qn:(M id).cap≠0:=by have:=f.le;omega
 obtain ⟨V3,row,Ek,La,D4⟩:=f.outer Qn;have Dv:i<row.size:=by have:=f.le;omega
 have Ly:=run_storeCells_at P (M id).Fm i t [v] 0 row w Ek AW (by simpa using z);simp only[B9,Br,Bx,B2] at Ly;have Rr:∀p,((row.toList.take i++[v]++row.toList.drop (i+1)).toArray).getD p undef=if p=i then v else row.getD p undef:=by
   intro p;have y:row.toList.take i++[v]++row.toList.drop (i+1)=row.toList.set i v:=by
     rw[List.set_eq_take_append_cons_drop,if_pos (by simpa using Dv)];simp
   rw[y];simp only[Bs,CM,BG];by_cases o:i=p
   . subst o;simp[Dv]
   . rw[if_neg o,if_neg (CK o)];simp
 have HK:((row.toList.take i++[v]++row.toList.drop (i+1)).toArray).size=(M id).cap:=by
   simp;omega
 have Dr:=Afu n;refine ⟨_,Ly,?_,_,setRow_heap w _ _ _ t (0,0) Ek,HK,by rw[Rr,if_pos rfl]⟩;have H:∀j,get st.hp j=if j=id then some (.Fc t e sz k rows (some i)) else get st.hp j:=λ j=>by split<;>simp_all
 have q:=u.change (M':=M) (hp':=st.hp) (w':=w.setRow (M id).Fm (row.toList.take i++[v]++row.toList.drop (i+1)).toArray) H (λ _ _=>rfl) (Ea.refl _ _) rfl rfl rfl AT
   (λ b hb EG=>setRow_other w _ b _ (λ e=>EG _ n (.inl ⟨Qn,e⟩))) ?_ (λ b hb=> .inl ⟨_,n,hb⟩)
 . exact q
 . refine ⟨f.pos,f.xl,f.le,f.max,λ _=>⟨V3,_,setRow_heap w _ _ _ t (0,0) Ek,HK,λ j r g h2 l m=>?_⟩,λ j r g h2 l m=>?_,f.Awr,f.dis,f.out⟩
   . obtain ⟨x,B,E⟩:=D4 j r g h2 l m;have:j≠i:=λ e=>m (by rw[e]);exact ⟨x,by rw[Rr,if_neg this];exact B,E⟩
   . refine (f.rows j r g h2 l m).keep (λ b hb=>setRow_other w _ b _ (λ e=>V3 (e ▸ hb))) (λ _ h=>h) (λ s=>⟨setRow_other w _ _ _ (f.out j g l s Qn),?_⟩);exact ((f.rows j r g h2 l m).2.2.2.2 s).1
theorem Rel.fill(x:Rel c st a w F M){id i q:Nat}{t e:AG}{sz k:Nat}{rows:Ay}{es:Ag}(z:get st.hp id=some (.Fc t e sz k rows (some i)))(W:i<rows.length)
   (v:get st.hp q=some (.arr e sz es)) (Ek:∃row,w.heap[(M id).Fm]?=some (.cells row t (0,0))/\∃ad,row.getD i undef= .slice ad es.length (M q).cap/\((M q).cap=0∨ad=some ⟨(M q).Fm,0,none⟩)):
   Rel c {st with hp:=Dn (Dn st.hp id (.Fc t e sz (k+1) (rows.set i es) none)) q (.Ij (F7 (.arr sz (es.length+1))))} a w F (λ j=>if j=id then {(M id) with xs:=(M id).xs.set i ((M q).Fm,(M q).cap)} else M j):=by
 have r:MV F w (M id) t e sz rows (some i):=x.heap.obj id _ z;have hA:Alq F w (M q) e sz es:=x.heap.obj q _ v;have Ad2:q≠id:=λ e=>by rw[e,z] at v;cases v
 generalize H:(λ j=>if j=id then {(M id) with xs:=(M id).xs.set i ((M q).Fm,(M q).cap)} else M j)=M';have Qo:M' id={(M id) with xs:=(M id).xs.set i ((M q).Fm,(M q).cap)}:=by rw[<-H];simp
 have Ug:∀j,j≠id->M' j=M j:=λ j h=>by rw[<-H];simp[h]
 have Dr:∀j,get (Dn (Dn st.hp id (.Fc t e sz (k+1) (rows.set i es) none)) q (.Ij (F7 (.arr sz (es.length+1))))) j=
     if j=q then some (.Ij (F7 (.arr sz (es.length+1)))) else if j=id then some (.Fc t e sz (k+1) (rows.set i es) none) else get st.hp j:=λ j=>by rw[DH,DH]
 have YP:sg st.hp id=some (.Fc sz rows.length k):=by simp[sg,z,AO.sg]
 have Afq:sg st.hp q=some (.arr sz es.length):=by simp[sg,v,AO.sg]
 have K9:Ea M M' (sg st.hp) (sg (Dn (Dn st.hp id (.Fc t e sz (k+1) (rows.set i es) none)) q (.Ij (F7 (.arr sz (es.length+1)))))):=by
   refine ⟨λ j f=>?_,λ j s2 R f=>?_,λ j s2 R k2 f=>?_⟩
   . have g:j≠q:=λ e=>by rw[e,Afq] at f;cases f
     have h2:j≠id:=λ e=>by rw[e,YP] at f;cases f
     refine ⟨?_,by rw[Ug j h2]⟩;unfold sg at f ⊢;rw[Dr,if_neg g,if_neg h2];exact f
   . have h2:j≠id:=λ e=>by rw[e,YP] at f;cases f
     by_cases g:j=q
     . subst g;rw[Afq] at f;simp only[Bo,Sg.arr.injEq] at f;obtain ⟨rfl,rfl⟩:=f;refine ⟨es.length+1,?_,Nat.le_succ _,λ h=>AQ⟩;unfold sg;rw[Dr,if_pos rfl];rfl
     . refine ⟨R,?_,Bk _,λ _=>Ug j h2⟩;unfold sg at f ⊢;rw[Dr,if_neg g,if_neg h2];exact f
   . have g:j≠q:=λ e=>by rw[e,Afq] at f;cases f
     by_cases h2:j=id
     . subst h2;rw[YP] at f;simp only[Bo,Sg.Fc.injEq] at f;obtain ⟨rfl,rfl,rfl⟩:=f;refine ⟨_,k+1,?_,Bk _,Nat.le_succ _,λ _=>by rw[Qo];exact ⟨rfl,rfl⟩,λ h=>AQ⟩;unfold sg;rw[Dr,if_neg g,if_pos rfl];simp[AO.sg]
     . refine ⟨R,k2,?_,Bk _,Bk _,λ _=>by rw[Ug j h2];exact ⟨rfl,rfl⟩,λ _=>by rw[Ug j h2]⟩;unfold sg at f ⊢;rw[Dr,if_neg g,if_neg h2];exact f
 have Bs1:i<(M id).xs.length:=by rw[r.xl];exact W
 have EG:∀b,(M q).cap≠0->b=(M q).Fm->¬GK (M id) b:=λ b g h2 l=>Ad2 (x.heap.inj q _ id _ b v z ⟨g,h2⟩ l);have Br9:∀{j u},(rows.set i es)[j]?=some u->(i=j/\u=es)∨(i≠j/\rows[j]?=some u):=by
   intro j u h;by_cases e:i=j
   . subst e;rw[CH W] at h;exact .inl ⟨rfl,(Bf h).symm⟩
   . rw[List.getElem?_set_ne e] at h;exact .inr ⟨e,h⟩
 have N:MV F w (M' id) t e sz (rows.set i es) none:=by
   rw[Qo];refine ⟨r.pos,by simp[r.xl],by simpa using r.le,r.max,λ hc=>?_,λ j u s g h2 l=>?_,λ j s g h2=>(by cases g),λ Y Z S T g h2 l m E=>?_,λ j s g h2 l=>?_⟩
   . obtain ⟨g1,row,U,g3,g4⟩:=r.outer hc;refine ⟨g1,row,U,g3,λ j u s g h2 l=>?_⟩;rcases Br9 g with ⟨rfl,rfl⟩ | ⟨B,n⟩
     . rcases G9 h2 with ⟨_,rfl⟩ | ⟨m,_⟩
       . obtain ⟨Bnf,V,ad,g6,g7⟩:=Ek;rw[U] at V;cases V;exact ⟨ad,g6,g7⟩
       . exact (m rfl).elim
     . rcases G9 h2 with ⟨m,_⟩ | ⟨_,m⟩
       . exact (B m).elim
       . exact g4 j u s n m (λ h=>B (Bf h))
   . rcases Br9 g with ⟨rfl,rfl⟩ | ⟨B,n⟩
     . rcases G9 h2 with ⟨_,rfl⟩ | ⟨m,_⟩
       . exact hA
       . exact (m rfl).elim
     . rcases G9 h2 with ⟨m,_⟩ | ⟨_,m⟩
       . exact (B m).elim
       . exact r.rows j u s n m (λ h=>B (Bf h))
   . rcases G9 g with ⟨I,n⟩ | ⟨I,n⟩
     . rcases G9 h2 with ⟨K,y⟩ | ⟨K,y⟩
       . exact (l (I.symm.trans K)).elim
       . intro p;subst n;exact EG _ m rfl (.inr ⟨Z,T,y,E,p⟩)
     . rcases G9 h2 with ⟨K,y⟩ | ⟨K,y⟩
       . intro p;subst y;exact EG _ E rfl (.inr ⟨Y,S,n,m,p.symm⟩)
       . exact r.dis Y Z S T n y l m E
   . rcases G9 g with ⟨I,n⟩ | ⟨I,n⟩
     . intro p;subst n;exact EG _ h2 rfl (.inl ⟨l,p⟩)
     . exact r.out j s n h2 l
 have Ta:∀b,GK (M' id) b->GK (M id) b∨((M q).cap≠0/\b=(M q).Fm):=by
   intro b hb;rw[Qo] at hb;rcases hb with ⟨g,h2⟩ | ⟨j,s,g,h2,l⟩
   . exact .inl (.inl ⟨g,h2⟩)
   . rcases G9 g with ⟨_,n⟩ | ⟨_,n⟩
     . subst n;exact .inr ⟨h2,l⟩
     . exact .inl (.inr ⟨j,s,n,h2,l⟩)
 refine x.Bcw K9 (λ j o f=>?_) (λ j o b f hb=>?_) (λ j o Q o' b f I4 hb YU=>?_)
 . rw[Dr] at f;split at f
   . cases f;exact .inr trivial
   . split at f
     . rename_i h2;subst h2;cases f;exact .inr N
     . rename_i g h2;exact .inl ⟨f,Ug j h2⟩
 . rw[Dr] at f;split at f
   . cases f;exact hb.elim
   . split at f
     . rename_i h2;subst h2;cases f;rcases Ta b hb with l | l
       . exact ⟨j,_,z,l⟩
       . exact ⟨q,_,v,l⟩
     . rename_i g h2;rw[Ug j h2] at hb;exact ⟨j,o,f,hb⟩
 . rw[Dr] at f I4;have Ua:∀j o,j≠q->j≠id->get st.hp j=some o->o.JM (M' j) b->GK (M' id) b->False:=λ j o g h2 l m E=>by
     rw[Ug j h2] at m;rcases Ta b E with p | p
     . exact h2 (x.heap.inj j o id _ b l z m p)
     . exact g (x.heap.inj j o q _ b l v m p)
   split at f
   . cases f;exact hb.elim
   . rename_i g;split at I4
     . cases I4;exact YU.elim
     . rename_i Hc;split at f
       . rename_i h2;subst h2;cases f;split at I4
         . rename_i LC;exact LC.symm
         . rename_i LC;exact (Ua Q o' Hc LC I4 YU hb).elim
       . rename_i h2;split at I4
         . rename_i LC;subst LC;cases I4;exact (Ua j o g h2 f hb YU).elim
         . rename_i LC;rw[Ug j h2] at hb;rw[Ug Q LC] at YU;exact x.heap.inj j o Q o' b f I4 hb YU
end
end Go.Am
namespace Go.Am
open Go
section
variable {P:AK} {c:Ctx} {st:St} {a:Act} {w:AI} {F:Nat->Prop} {M:Nat->Mb}
theorem IN{t t2 ty e:AG}{f:AN}{i:AP}(p:P.underlying t=some (.slice e))(b:P.underlying t2=some f)(g:∀k,f≠ .int k)(o:P.info? e=some i)
   {base:Option Addr} {n cap m:Nat} {j:AJ} {news:Array Value} {w':AI} (hlen:(Builtin.lenOf j).run P w= .ok m w) (l:(Builtin.firstCells i.size m j).run P w= .ok news w)
   (Nf:n+m<=cap) (Ly:∀ad,base=some ad->(storeCells (ad.add (n*i.size)) news.toList).run P w= .ok () w') (Bry:base=none->w'=w):
   (Builtin.append_ #[t,t2] ty #[.slice base n cap,j]).run P w= .ok (.slice base (n+m) cap) w':=by
 have q:(match f with | .int _=>true | _=>false)=false:=by cases f<;>first | rfl | exact (g _ rfl).elim
 cases base with
 | none=>
   obtain rfl:=Bry rfl;simp[Builtin.append_,run_underlying p,run_underlying b,q,Fb o,hlen,Nf,l]
 | some ad=>
   simp[Builtin.append_,run_underlying p,run_underlying b,q,Fb o,hlen,Nf,l,Ly ad rfl]
theorem Jf{t t2 ty e:AG}{b:AN}{i:AP}{z:AJ}(u:P.underlying t=some (.slice e))(j:P.underlying t2=some b)(g:∀k,b≠ .int k)(p:P.info? e=some i)
   (v:i.zero=some z) {base:Option Addr} {n cap m:Nat} {o:AJ} {news Lu:Array Value} (hlen:(Builtin.lenOf o).run P w= .ok m w)
   (r:(Builtin.firstCells i.size m o).run P w.drew= .ok news w.drew) (f:(Builtin.firstCells i.size n (.slice base n cap)).run P w.drew= .ok Lu w.drew)
   (Nf:cap<n+m) (q:n+m<=140737488355328) (hb:(n+m)*i.bytes<=140737488355328):
   (Builtin.append_ #[t,t2] ty #[.slice base n cap,o]).run P w=
     .ok (.slice (some ⟨w.heap.size,0,none⟩) (n+m) (grownCap w (n+m) cap e)) (w.drew.alloc (.cells (Lu++news++Builtin.zeroCells z.cells (grownCap w (n+m) cap e - (n+m))) e)):=by
 have l:(match b with | .int _=>true | _=>false)=false:=by cases b<;>first | rfl | exact (g _ rfl).elim
 have s:¬(n+m<=cap):=AQ;have Bzl:¬(9223372036854775807<((n:Int)+(m:Int))):=AQ;have Bzm:¬(281474976710656<Builtin.nextslicecap (n+m) cap*i.bytes):=by
   have:=growslice_fits Nf hb;omega
 simp[Builtin.append_,run_underlying u,run_underlying j,l,Fb p,hlen,s,Bzl,Bzm,typeInfo,p,Question.forced,r,f,zeroValue,v,newRow,grownCap]
structure Src(P:AK)(w:AI)(F:Nat->Prop)(sz:Nat)(vx:AJ)(ys:Ag)(news:At):Prop where
 len:∀w1:World,(Builtin.lenOf vx).run P w1= .ok ys.length w1
 cells:∀w1:World,w1.heap=w.heap->(Builtin.firstCells sz ys.length vx).run P w1= .ok news.toArray w1
 pre:∀n,n<=ys.length->∀w1:World,w1.heap=w.heap->(Builtin.firstCells sz n vx).run P w1= .ok (news.take (n*sz)).toArray w1
 size:news.length=ys.length*sz
 data:∀(i:Nat) y (j:Nat) x,ys[i]?=some y->y[j]?=some x->PR F w x (news.getD (i*sz+j) undef)
theorem I5(z:Array Value)(n:Nat):(Builtin.zeroCells z n).size=n*z.size:=by simp[Builtin.zeroCells]
theorem Rel.Bkg(V:Rel c st a w F M){id t t2 ty e e2:AG}{u2:AN}{i:AP}{z:AJ}{sz k N:Nat}{rows:Ay}{vs vx v3:AJ}
   (H:get st.hp id=some (.Fc e e2 sz k rows none)) (a1:N=rows.length) (hv:DR F w M (sg st.hp) (.E3 id N) vs) (a0:v3.oneCell'=true)
   (H3:P.underlying t=some (.slice e)) (MN:P.underlying t2=some u2) (T:∀k,u2≠ .int k) (hi:P.info? e=some i) (hz:i.zero=some z) (HK:i.size=1) (a7:z.cells.size=1)
   (Ahb:∀K:World,(Builtin.lenOf vx).run P K= .ok 1 K) (R:∀K:World,K.heap=w.heap->(Builtin.firstCells i.size 1 vx).run P K= .ok #[v3] K)
   (hle:N+1<=140737488355328) (a2:(N+1)*i.bytes<=140737488355328):
   ∃v w' M',Rel c {st with hp:=Dn st.hp id (.Fc e e2 sz (k+1) (rows++[[]]) (some rows.length))} a w' F M'/\DR F w' M' (sg (Dn st.hp id (.Fc e e2 sz (k+1) (rows++[[]]) (some rows.length)))) (.E3 id (N+1)) v/\
     (Builtin.append_ #[t,t2] ty #[vs,vx]).run P w= .ok v w'/\(∀j,j≠id->M' j=M j)/\∃row,w'.heap[(M' id).Fm]?=some (.cells row e (0,0))/\row.getD rows.length undef=v3:=by
 subst a1;have s:MV F w (M id) e e2 sz rows none:=V.heap.obj id _ H;obtain ⟨cap,x,rfl,y,I,Y,h8⟩:∃cap x,vs= .slice x rows.length cap/\0+rows.length<=rows.length/\rows.length<=cap/\0+cap=(M id).cap/\(cap=0∨x=some ⟨(M id).Fm,0*1,none⟩):=by
   cases hv with
   | E3 _ _ b3 m1 k1 _ hs hN b0 h2=>
     rw[DT H] at hs;simp only[AO.sg,Bo,Sg.Fc.injEq] at hs;obtain ⟨rfl,rfl,rfl⟩:=hs;obtain ⟨x,cap,q,u⟩:=h2 rfl;exact ⟨cap,x,q,u⟩
 simp only[B2] at Y;subst Y;have Dr:∀j,get (Dn st.hp id (.Fc e e2 sz (k+1) (rows++[[]]) (some rows.length))) j=if j=id then some (.Fc e e2 sz (k+1) (rows++[[]]) (some rows.length)) else get st.hp j:=DH _ _ _
 have V1:sg (Dn st.hp id (.Fc e e2 sz (k+1) (rows++[[]]) (some rows.length))) id=some (.Fc sz (rows.length+1) (k+1)):=by rw[Ee Dr];simp[AO.sg]
 have K9:∀E,Ea M (I2 M id E) (sg st.hp) (sg (Dn st.hp id (.Fc e e2 sz (k+1) (rows++[[]]) (some rows.length)))):=by
   intro E;have hM:∀j,j≠id->I2 M id E j=M j:=λ j l=>by simp[I2,l]
   refine ⟨λ j l=>?_,λ j s2 n2 l=>?_,λ j s2 n2 k2 l=>?_⟩
   . have e2:j≠id:=λ e2=>by rw[e2,DT H] at l;simp[AO.sg] at l
     rw[Ee Dr,if_neg e2,hM j e2];exact ⟨l,rfl⟩
   . have e2:j≠id:=λ e2=>by rw[e2,DT H] at l;simp[AO.sg] at l
     rw[Ee Dr,if_neg e2,hM j e2];exact ⟨n2,l,Bk _,λ _=>rfl⟩
   . by_cases e2:j=id
     . subst e2;rw[DT H] at l;simp only[AO.sg,Bo,Sg.Fc.injEq] at l;obtain ⟨rfl,rfl,rfl⟩:=l;exact ⟨_,_,V1,AQ,AQ,λ h=>AQ,λ h=>AQ⟩
     . rw[Ee Dr,if_neg e2,hM j e2];exact ⟨n2,k2,l,Bk _,Bk _,λ _=>⟨rfl,rfl⟩,λ _=>rfl⟩
 have I3:∀{j:Nat} {b:Nat×Nat},((M id).xs++[(0,0)])[j]?=some b->(M id).xs[j]?=some b∨(j=rows.length/\b=(0,0)):=by
   intro j b h;rw[BZ] at h;split at h
   . exact .inl h
   . rename_i f;rw[s.xl] at f h;cases l:j - rows.length with
     | zero=>
       rw[l] at h;simp only[BE,Bo] at h;exact .inr ⟨AQ,h.symm⟩
     | succ m=>rw[l] at h;simp at h
 have W:∀{j:Nat} {r:Ag},(rows++[[]])[j]?=some r->(rows[j]?=some r/\j<rows.length)∨(j=rows.length/\r=[]):=by
   intro j r h;rw[BZ] at h;split at h
   . rename_i f;exact .inl ⟨h,f⟩
   . rename_i f;cases l:j - rows.length with
     | zero=>
       rw[l] at h;simp only[BE,Bo] at h;exact .inr ⟨AQ,h.symm⟩
     | succ m=>rw[l] at h;simp at h
 have mk:∀{w':AI} {b o:Nat},(∀b,F b->w'.heap[b]?=w.heap[b]?)->(∀(j:Nat) g,(M id).xs[j]?=some g->g.2≠0->w'.heap[g.1]?=w.heap[g.1]?)->(∀(j:Nat) g,(M id).xs[j]?=some g->g.2≠0->o≠0->g.1≠b)->
     rows.length+1<=o->o<=maxLen->¬F b->(∃row,w'.heap[b]?=some (.cells row e (0,0))/\row.size=o/\(∀(j:Nat) r g,rows[j]?=some r->(M id).xs[j]?=some g->∃a,row.getD j undef= .slice a r.length g.2/\(g.2=0∨a=some ⟨g.1,0,none⟩))/\True)->
     MV F w' ⟨b,o,(M id).xs++[(0,0)]⟩ e e2 sz (rows++[[]]) (some rows.length):=by
   intro w' b o hF a6 a5 Z hm V3 ⟨row,g1,g2,g3,g4⟩;refine ⟨s.pos,by simp[s.xl],by simpa using Z,hm,λ _=>⟨V3,row,g1,g2,λ j r g f h2 EG=>?_⟩,λ j r g f h2 EG=>?_,λ j g f h2=>?_,λ j1 j2 b1 b2 f h2 q u y=>?_,λ j bi f h2 q=>?_⟩
   . rcases W f with ⟨q,u⟩ | ⟨rfl,rfl⟩
     . rcases I3 h2 with y | ⟨rfl,_⟩
       . exact g3 j r g q y
       . omega
     . rcases I3 h2 with y | ⟨_,rfl⟩
       . have:=(Bn.1 y).1;rw[s.xl] at this;omega
       . exact (EG rfl).elim
   . rcases W f with ⟨q,u⟩ | ⟨rfl,rfl⟩
     . rcases I3 h2 with y | ⟨rfl,_⟩
       . exact (s.rows j r g q y AT).keep hF (λ _ h=>h) (λ hc=>⟨a6 j g y hc,s.PH (.inr ⟨j,g,y,hc,rfl⟩)⟩)
       . omega
     . rcases I3 h2 with y | ⟨_,rfl⟩
       . have:=(Bn.1 y).1;rw[s.xl] at this;omega
       . exact (EG rfl).elim
   . simp only[Bo] at f;subst f;rcases I3 h2 with I | ⟨_,rfl⟩
     . have:=(Bn.1 I).1;rw[s.xl] at this;omega
     . rfl
   . rcases I3 f with I | ⟨_,rfl⟩
     . rcases I3 h2 with Y | ⟨_,rfl⟩
       . exact s.dis j1 j2 b1 b2 I Y q u y
       . exact (y rfl).elim
     . exact (u rfl).elim
   . rcases I3 f with I | ⟨_,rfl⟩
     . exact a5 j bi I h2 q
     . exact (h2 rfl).elim
 have Q:∀{w':AI} {b o:Nat} {x:Option Addr},rows.length+1<=o->x=some ⟨b,0,none⟩->DR F w' (I2 M id ⟨b,o,(M id).xs++[(0,0)]⟩) (sg (Dn st.hp id (.Fc e e2 sz (k+1) (rows++[[]]) (some rows.length)))) (.E3 id (rows.length+1)) (.slice x (rows.length+1) o):=by
   intro w' b o x f h2;exact .E3 id _ sz (rows.length+1) (k+1) _ V1 (Bk _) ⟨_,_,rfl,.inr ⟨_,h2⟩⟩ (λ _=>⟨x,o,rfl,AQ,f,by simp[I2],.inr (by simp[I2,h2])⟩)
 have Qo:∀E,I2 M id E id=E:=λ E=>by simp[I2]
 have Ug:∀E j,j≠id->I2 M id E j=M j:=λ E j l=>by simp[I2,l]
 have Blj:∀{b' o b:Nat},GK ⟨b',o,(M id).xs++[(0,0)]⟩ b->(o≠0/\b=b')∨GK (M id) b:=by
   intro b' o b h;rcases h with ⟨f,h2⟩ | ⟨j,g,f,h2,q⟩
   . exact .inl ⟨f,h2⟩
   . rcases I3 f with u | ⟨_,rfl⟩
     . exact .inr (.inr ⟨j,g,u,h2,q⟩)
     . exact (h2 rfl).elim
 by_cases Nf:rows.length+1<=(M id).cap
 . have B:(M id).cap≠0:=AQ;obtain rfl:=h8.resolve_left B;obtain ⟨V3,row,Ek,La,D4⟩:=s.outer B;have Ly:=run_storeCells_at P (M id).Fm (rows.length*i.size) e [v3] 0 row w Ek (by simp[HK];omega) (by intro v hv;simp at hv;subst hv;exact a0);simp only[B9] at Ly;have ET:=IN (P:=P) (w:=w) (ty:=ty) H3 MN T hi (base:=some ⟨(M id).Fm,0*1,none⟩) (n:=rows.length) (Ahb w) (R w rfl) Nf
     (λ a8 e3=>by cases e3;rw[Addr.add_lit];simp only[Nat.zero_mul,B2];exact Ly) (λ e3=>by cases e3)
   simp only[HK,Nat.mul_one,Br,Bx,B2] at ET Ly;have Rr:∀p,((row.toList.take rows.length++[v3]++row.toList.drop (rows.length+1)).toArray).getD p undef=if p=rows.length then v3 else row.getD p undef:=by
     intro p;have e1:row.toList.take rows.length++[v3]++row.toList.drop (rows.length+1)=row.toList.set rows.length v3:=by
       rw[List.set_eq_take_append_cons_drop,if_pos AW];simp
     rw[e1];simp only[Bs,CM,BG];by_cases e2:rows.length=p
     . subst e2;have h9:rows.length<row.size:=AQ;simp[h9]
     . rw[if_neg e2,if_neg (CK e2)];simp
   have Bny:((row.toList.take rows.length++[v3]++row.toList.drop (rows.length+1)).toArray).size=(M id).cap:=by
     simp;omega
   refine ⟨_,_,I2 M id ⟨(M id).Fm,(M id).cap,(M id).xs++[(0,0)]⟩,V.change (w':=w.setRow (M id).Fm (row.toList.take rows.length++[v3]++row.toList.drop (rows.length+1)).toArray) Dr (Ug _) (K9 _) rfl rfl rfl AT
     (λ b hb EG=>setRow_other w _ b _ (λ e=>EG _ H (.inl ⟨B,e⟩))) ?_ (λ b hb=> .inl ⟨_,H,?_⟩),Q Nf rfl,ET,Ug _,by rw[Qo];exact ⟨_,setRow_heap w _ _ _ e (0,0) Ek,by rw[Rr,if_pos rfl]⟩⟩
   . rw[Qo];exact mk (λ b hb=>setRow_other w _ b _ (λ e=>V3 (e ▸ hb))) (λ j g f h2=>setRow_other w _ _ _ (s.out j g f h2 B)) (λ j g f h2 _=>s.out j g f h2 B) Nf s.max V3
       ⟨_,setRow_heap w _ _ _ e (0,0) Ek,Bny,λ j r g f h2=>by
         obtain ⟨a,q,u⟩:=D4 j r g f h2 AT;have:=(Bn.1 f).1;exact ⟨a,by rw[Rr,if_neg AQ];exact q,u⟩,trivial⟩
   . rw[Qo] at hb;rcases Blj hb with ⟨_,f⟩ | f
     . exact .inl ⟨B,f⟩
     . exact f
 ·
   obtain ⟨Lu,U,a3,a4⟩:∃Lu:Array Value,Lu.size=rows.length/\(Builtin.firstCells i.size rows.length (.slice x rows.length (M id).cap)).run P w.drew= .ok Lu w.drew/\
       ∀(j:Nat) r g,rows[j]?=some r->(M id).xs[j]?=some g->∃a,Lu.getD j undef= .slice a r.length g.2/\(g.2=0∨a=some ⟨g.1,0,none⟩):=by
     by_cases h0:(M id).cap=0
     . have f:rows=[]:=B0 AQ;subst f;refine ⟨#[],rfl,?_,λ j r g h=>by simp at h⟩;cases x<;>simp[Builtin.firstCells,loadCells,loadCellsFrom]
     . obtain rfl:=h8.resolve_left h0;obtain ⟨V3,row,Ek,La,D4⟩:=s.outer h0;have Z:(row.toList.take rows.length).length=rows.length:=AW;refine ⟨(row.toList.take rows.length).toArray,by simpa using Z,?_,λ j r g f h2=>?_⟩
       . refine run_firstCells_some (P:=P) w.drew i.size rows.length ⟨(M id).Fm,0*1,none⟩ rows.length (M id).cap _ (by rw[Z,HK];omega) (λ j v l=>?_);rw[Addr.add_lit,cell_of_row w.drew (M id).Fm (0*1+j) row e (0,0) Ek];rw[BM] at l;split at l
         . simpa using l
         . cases l
       . obtain ⟨a,q,u⟩:=D4 j r g f h2 AT;have:=(Bn.1 f).1;refine ⟨a,?_,u⟩;rw[<-q];simp[Bs,BM,this]
   have ET:=Jf (P:=P) (w:=w) (ty:=ty) H3 MN T hi hz (base:=x) (n:=rows.length) (cap:=(M id).cap) (Ahb w) (R w.drew rfl) a3 AQ hle a2;have Ww:=grownCap_ge w (rows.length+1) (M id).cap e;have S:=grownCap_le_maxLen w (rows.length+1) (M id).cap e (by unfold maxLen;omega);generalize a9:grownCap w (rows.length+1) (M id).cap e=o at ET Ww S;have Sa:=heap_alloc_new w.drew (.cells (Lu++#[v3]++Builtin.zeroCells z.cells (o - (rows.length+1))) e);have hold:∀b,b<w.heap.size->(w.drew.alloc (.cells (Lu++#[v3]++Builtin.zeroCells z.cells (o - (rows.length+1))) e)).heap[b]?=w.heap[b]?:=λ b hb=>alloc_old w.drew _ b hb;refine ⟨_,_,I2 M id ⟨w.heap.size,o,(M id).xs++[(0,0)]⟩,V.change (w':=w.drew.alloc (.cells (Lu++#[v3]++Builtin.zeroCells z.cells (o - (rows.length+1))) e)) Dr (Ug _) (K9 _) rfl rfl rfl AT
     (λ b hb _=>hold b hb) ?_ (λ b hb=>?_),Q Ww rfl,ET,Ug _,by rw[Qo];refine ⟨_,Sa,?_⟩;simp only[Bs];rw[Array.getElem?_append_left AW,Array.getElem?_append_right AQ,U];simp⟩
   . rw[Qo];refine mk (λ b hb=>hold b (V.keep.Fl b hb)) (λ j g f h2=>hold _ (s.lt (.inr ⟨j,g,f,h2,rfl⟩))) (λ j g f h2 _=>Nat.ne_of_lt (s.lt (.inr ⟨j,g,f,h2,rfl⟩))) Ww S (λ hF=>Nat.lt_irrefl _ (V.keep.Fl _ hF))
       ⟨_,Sa,by simp[I5,a7,U];omega,λ j r g f h2=>?_,trivial⟩
     . obtain ⟨a,q,u⟩:=a4 j r g f h2;have:=(Bn.1 f).1;refine ⟨a,?_,u⟩;rw[<-q];simp only[Bs];rw[Array.getElem?_append_left AW,Array.getElem?_append_left AQ]
   . rw[Qo] at hb;rcases Blj hb with ⟨_,f⟩ | f
     . exact .inr (by rw[f];exact Bk _)
     . exact .inl ⟨_,H,f⟩
theorem Ars(b:Hp)(id:Nat)(o e:AO):Dn (Dn b id o) id e=Dn b id e:=by
 induction b with
 | nil=>simp[Dn]
 | cons q r f=>
   obtain ⟨k,x⟩:=q;simp only[Dn];split
   . simp[Dn]
   . rename_i h;simp[Dn,h,f]
theorem Rel.Bkf(W:Rel c st a w F M){id q t t2 ty e e2:AG}{E:AN}{i:AP}{z:AJ}{sz k N:Nat}{rows:Ay}{es:Ag}{vs y:AJ}{ad:Option Addr}
   (B:get st.hp id=some (.Fc e e2 sz k rows none)) (g:N=rows.length) (Y:DR F w M (sg st.hp) (.E3 id N) vs) (o:get st.hp q=some (.arr e2 sz es)) (j:(M q).cap=0∨ad=some ⟨(M q).Fm,0,none⟩)
   (H3:P.underlying t=some (.slice e)) (MN:P.underlying t2=some E) (n:∀k,E≠ .int k) (U:P.info? e=some i) (Z:i.zero=some z) (HK:i.size=1) (x:z.cells.size=1)
   (Ahb:∀b:World,(Builtin.lenOf y).run P b= .ok 1 b) (m:∀b:World,b.heap=w.heap->(Builtin.firstCells i.size 1 y).run P b= .ok #[.slice ad es.length (M q).cap] b)
   (hle:N+1<=140737488355328) (l:(N+1)*i.bytes<=140737488355328):
   ∃v w' M',Rel c {st with hp:=Dn (Dn st.hp id (.Fc e e2 sz (k+2) (rows++[es]) none)) q (.Ij (F7 (.arr sz (es.length+1))))} a w' F M'/\
     DR F w' M' (sg (Dn (Dn st.hp id (.Fc e e2 sz (k+2) (rows++[es]) none)) q (.Ij (F7 (.arr sz (es.length+1)))))) (.E3 id (N+1)) v/\(Builtin.append_ #[t,t2] ty #[vs,y]).run P w= .ok v w':=by
 subst g;have Ad2:q≠id:=λ e=>by rw[e,B] at o;cases o
 obtain ⟨v,w',M1,KF,Tk,ET,f,row,Ek,u⟩:=W.Bkg (P:=P) (ty:=ty) (v3:= .slice ad es.length (M q).cap) B rfl Y rfl H3 MN n U Z HK x Ahb m hle l;have Ww:get (Dn st.hp id (.Fc e e2 sz (k+1) (rows++[[]]) (some rows.length))) id=some (.Fc e e2 sz (k+1) (rows++[[]]) (some rows.length)):=by rw[DH,if_pos rfl]
 have p:get (Dn st.hp id (.Fc e e2 sz (k+1) (rows++[[]]) (some rows.length))) q=some (.arr e2 sz es):=by rw[DH,if_neg Ad2];exact o
 have Mo:M1 q=M q:=f q Ad2;have h2:=KF.fill Ww AT p ⟨row,Ek,ad,by rw[Mo];exact u,by rw[Mo];exact j⟩;have Aaf:(rows++[[]]).set rows.length es=rows++[es]:=by rw[List.set_append_right _ _ (Bk _)];simp
 rw[Ars,Aaf] at h2;refine ⟨v,w',_,h2,?_,ET⟩;have Bym:sg (Dn (Dn st.hp id (.Fc e e2 sz (k+2) (rows++[es]) none)) q (.Ij (F7 (.arr sz (es.length+1))))) id=some (.Fc sz (rows.length+1) (k+2)):=by
   simp only[sg];rw[DH,if_neg (CK Ad2),DH,if_pos rfl];simp[AO.sg]
 cases Tk with
 | E3 _ _ a0 m1 k1 _ r hN s V=>
   rw[DT Ww] at r;simp only[AO.sg,Bo,Sg.Fc.injEq] at r;obtain ⟨rfl,rfl,rfl⟩:=r;have K:=V AT;refine .E3 id _ sz (rows.length+1) (k+2) _ Bym (Bk _) s (λ _=>?_);obtain ⟨H,I,Q,h5,R,S,T⟩:=K;exact ⟨H,I,Q,AQ,R,by simpa using S,by simpa using T⟩
end
end Go.Am
namespace Go.Am
open Go
section
variable {P:AK} {c:Ctx} {st:St} {a:Act} {w:AI} {F:Nat->Prop} {M:Nat->Mb}
theorem Q8{es:Ag}{ad:Option Addr}{cap sz:Nat}(HK:∀y∈es,y.length=sz)
   (h:es≠[]->∃b off row t m,ad=some ⟨b,off,none⟩/\w.heap[b]?=some (.cells row t m)/\(off+es.length*sz<=row.size)/\
     ∀(i:Nat) e (j:Nat) c,es[i]?=some e->e[j]?=some c->PR F w c (row.getD (off+i*sz+j) undef)):∃news,Src P w F sz (.slice ad es.length cap) es news:=by
 by_cases p:es=[]
 . subst p;exact ⟨[],⟨λ g=>by simp[Builtin.lenOf],λ g _=>by cases ad<;>simp[Builtin.firstCells,loadCells,loadCellsFrom],λ n o g _=>by
     obtain rfl:n=0:=by simpa using o
     cases ad<;>simp[Builtin.firstCells,loadCells,loadCellsFrom],AT,λ i y j x l _=>by simp at l⟩⟩
 . obtain ⟨b,off,row,t,m,rfl,q,Boe,s⟩:=h p;have hlen:((row.toList.drop off).take (es.length*sz)).length=es.length*sz:=AW;refine ⟨(row.toList.drop off).take (es.length*sz),⟨λ g=>by simp[Builtin.lenOf],λ g k=>?_,λ n o g k=>?_,hlen,λ i y j x l hx=>?_⟩⟩
   . refine run_firstCells_some (P:=P) g sz es.length ⟨b,off,none⟩ es.length cap _ hlen (λ j v f=>?_);rw[Addr.add_lit,cell_of_row g b (off+j) row t m (by rw[k];exact q)];rw[BM] at f;split at f
     . simpa using f
     . cases f
   . refine run_firstCells_some (P:=P) g sz n ⟨b,off,none⟩ es.length cap _ (by rw[BK,hlen];exact CJ (CA _ o)) (λ j v f=>?_);rw[Addr.add_lit,cell_of_row g b (off+j) row t m (by rw[k];exact q)];rw[BM] at f;split at f
     . rw[BM] at f;split at f
       . simpa using f
       . cases f
     . cases f
   . have:=s i y j x l hx;have Dv:i*sz+j<es.length*sz:=by
       have r:=(Bn.1 l).1;have h2:=(Bn.1 hx).1;exact M7 r (Bk _) (by have:=HK y (Bt l);omega)
     rw[Bu,BM,if_pos Dv,BX];rwa[Bs,Nat.add_assoc,<-Cx] at this
theorem T5{es:Ag}{v:AJ}(h:PR F w (.sl es) v){sz:Nat}(HK:∀y∈es,y.length=sz)(HO:0<sz):∃news,Src P w F sz v es news:=by
 cases h with
 | sl0 o cap=>exact Q8 (es:=[]) HK (λ h=>(h rfl).elim)
 | sl _ b off cap Va row t i q k r f l m=>
   refine Q8 HK (λ j=>?_);have Bli:0<es.length:=Ca.2 j;have g:es[0]?=some es[0]:=Bp Bli;have n:Va=sz:=(f 0 _ g).symm.trans (HK _ (Cm Bli));subst n;refine ⟨b,off,row,t,i,rfl,k,?_,m⟩;have e:es[es.length - 1]?=some es[es.length - 1]:=Bp AQ;have s:=f _ _ e;have:=l _ _ (Va - 1) _ e (Bp AQ);have p:es.length*Va=(es.length - 1)*Va+Va:=by rw[<-Nat.succ_mul];congr 1;omega
   omega
theorem Arn(l:Ad){sz:Nat}(HK:∀y∈Gz l,y.length=sz):Src P w F sz (.string ⟨l.toArray⟩) (Gz l) (l.map λ b=>Value.int .u8 b.toNat):=by
 have hlen:(Gz l).length=l.length:=by simp[Gz]
 have k:l.length*sz=l.length:=by
   cases l with
   | nil=>simp
   | cons b r=>have:=HK [Pd.int .u8 b.toNat] (by simp[Gz]);simp at this;subst this;simp
 refine ⟨λ g=>by simp[Builtin.lenOf,hlen,Qb],λ g _=>?_,λ n f g _=>?_,by simp[hlen,k],λ i y j x e hx=>?_⟩
 . simp only[Builtin.firstCells,hlen,Sem.run_pure]
   congr 1
   apply Array.ext';simp
 . have Ue:n*sz=n:=by
     cases l with
     | nil=>simp[Gz] at f;simp[f]
     | cons b r=>have:=HK [Pd.int .u8 b.toNat] (by simp[Gz]);simp at this;subst this;simp
   simp only[Builtin.firstCells,Ue,Sem.run_pure]
   congr 1
   apply Array.ext';simp[CE]
 . simp only[Gz,BD] at e;cases hb:l[i]? with
   | none=>rw[hb] at e;cases e
   | some b=>
     rw[hb] at e;simp only[Ci,Bo] at e;subst e;cases j with
     | succ j=>simp at hx
     | zero=>
       simp only[BE,Bo] at hx;subst hx;have m:sz=1:=by
         have:=HK [Pd.int .u8 b.toNat] (by simp only[Gz,BS];exact ⟨b,Bt hb,rfl⟩)
         simpa using this.symm
       subst m;simp only[Nat.mul_one,B9];rw[Bu,BD,hb];exact .int _ _
theorem Vi{α:Type}{x:α}{l:List α}{n m:Nat}(h:x∈(l.drop n).take m):x∈l:=List.mem_of_mem_drop (CB h)
theorem VG(s:HR F w M st.hp){id off len sz:Nat}{es:Ag}{v:AJ}(p:(∃t,get st.hp id=some (.arr t sz es))∨get st.hp id=some (.Oh sz es))
   (h:Xd (M id) sz es.length off len v):∃news,Src P w F sz v ((es.drop off).take len) news:=by
 obtain ⟨ad,cap,rfl,z,h2,B,l⟩:=h;obtain ⟨E,H,m,n⟩:=s.row p;have hlen:((es.drop off).take len).length=len:=AW;have Dr:∀(i:Nat) e,((es.drop off).take len)[i]?=some e->es[off+i]?=some e:=λ i e b=>by
   rw[BM] at b;split at b
   . rwa[BX] at b
   . cases b
 have key:=Q8 (P:=P) (w:=w) (F:=F) (es:=(es.drop off).take len) (ad:=ad) (cap:=cap) (sz:=sz) (λ y u=>by
   obtain ⟨i,q⟩:=B8.1 (Vi u);exact m i y q) (λ k=>by
   have r:0<len:=by
     rcases Nat.eq_zero_or_pos len with h | h
     . subst h;simp at k
     . exact h
   have o:=l.resolve_left AQ;subst o;obtain ⟨row,t,g,XB,f,ZY⟩:=n AQ;refine ⟨_,_,row,t,g,rfl,XB,?_,λ i e j x b hx=>?_⟩
   . rw[hlen,f,<-B7];exact CA _ AQ
   . have:=ZY _ e j x (Dr i e b) hx;rwa[B7] at this)
 rw[hlen] at key;exact key
theorem Abn(o:Rel c st a w F M){d:D}{v:AJ}(b:DR F w M (sg st.hp) d v){k:Ag->Prop}(h:R6 st.hp d k):
   ∃e,k e/\∀sz,0<sz->(∀y∈e,y.length=sz)->∃news,Src P w F sz v e news:=by
 have ref:∀{id off len N Va n} {es:Ag},((∃t,get st.hp id=some (.arr t Va es))∨get st.hp id=some (.Oh Va es))->sg st.hp id=some (.arr Va es.length)->N=es.length->
     DR F w M (sg st.hp) (.ref id off len N) v->n=len->∀sz,0<sz->(∀y∈(es.drop off).take len,y.length=sz)->∃news,Src P w F sz v ((es.drop off).take len) news:=by
   intro id off len N Va n es m Lz s b _ sz HO HK;cases b with
   | ref _ _ _ _ ZC I _ j u H h2=>
     rw[Lz] at j;simp only[Bo,Sg.arr.injEq] at j;obtain ⟨rfl,rfl⟩:=j;have Ru:=h2 s;by_cases g:(es.drop off).take len=[]
     . obtain ⟨r,cap,rfl,E,_⟩:=Ru;rw[g];have:len=0:=by
         have:=B3 List.length g;simp at this;omega
       subst this;exact Q8 (es:=[]) AT (λ h=>(h rfl).elim)
     . obtain ⟨y,q⟩:=List.exists_mem_of_ne_nil _ g;have z:=HK y q;obtain ⟨i,x⟩:=B8.1 (Vi q);have B:=(o.heap.row m).2.2.1 i y x;have:Va=sz:=AQ;subst this;exact VG o.heap m Ru
 unfold R6 at h;split at h
 . rename_i e;cases b with | p hx=>exact ⟨e,h,λ sz HO HK=>T5 hx HK HO⟩
 . rename_i l;cases b with | p hx=>cases hx;exact ⟨_,h,λ sz _ HK=>⟨_,Arn l HK⟩⟩
 . rename_i e;cases b with | cl _ r hx _=>exact ⟨e,h,λ sz HO HK=>T5 hx HK HO⟩
 . rename_i id off len N;split at h
   . rename_i t Va es f;exact ⟨_,h.2,ref (n:=len) (.inl ⟨t,f⟩) (DT f) h.1 b rfl⟩
   . rename_i Va es f;exact ⟨_,h.2,ref (n:=len) (.inr f) (DT f) h.1 b rfl⟩
   . exact h.elim
 . exact h.elim
theorem Kz{es f:Ag}{sz:Nat}{Lu news rest:At}(g:Lu.length=es.length*sz)(n:news.length=f.length*sz)
   (Vn:∀(i:Nat) e,es[i]?=some e->e.length=sz) (Yj:∀(i:Nat) e,f[i]?=some e->e.length=sz)
   (o:∀(i:Nat) y (j:Nat) x,es[i]?=some y->y[j]?=some x->PR F w x (Lu.getD (i*sz+j) undef))
   (m:∀(i:Nat) y (j:Nat) x,f[i]?=some y->y[j]?=some x->PR F w x (news.getD (i*sz+j) undef)) (i:Nat) (y:Ax) (j:Nat) (x:Pd)
   (b:(es++f)[i]?=some y) (hx:y[j]?=some x):PR F w x ((Lu++news++rest).getD (i*sz+j) undef):=by
 have q:=(Bn.1 hx).1;rw[BZ] at b;rw[Cr,Bu];split at b
 . rename_i Dv;have:=M7 Dv (Bk _) (show j<sz by have:=Vn i y b;omega);rw[Cw AQ,<-Bu];exact o i y j x b hx
 . rename_i l;have Dv:=(Bn.1 b).1;have p:=M7 Dv (Bk _) (show j<sz by have:=Yj _ y b;omega);have h2:es.length*sz<=i*sz:=CA _ AQ;have k:i*sz+j - es.length*sz=(i - es.length)*sz+j:=by rw[Nat.sub_mul];omega
   rw[CI AQ,g,k,Cw AQ,<-Bu];exact m _ y j x b hx
theorem Jz(v:AJ):(M9 v).cells.length=v.cells.size:=by
 have e:∀l:At,(UG l).length=l.length:=λ l=>by
   induction l with
   | nil=>rfl
   | cons v r f=>simp[UG,f]
 cases v with
 | agg cs=>simp[M9,D.cells,Value.cells,e]
 | slice b l q=>cases b<;>(try cases l)<;>(try cases q)<;>simp[M9,D.cells,Value.cells]
 | pointer q=>cases q<;>simp[M9,D.cells,Value.cells]
 | _=>simp[M9,D.cells,Value.cells]
theorem Rel.Acg(l:Rel c st a w F M){q sz:Nat}{e:AG}(k:get st.hp q=none)(HK:0<sz):
   Rel c {st with hp:=(q,.arr e sz [])::st.hp} a w F (I2 M q ⟨0,0,[]⟩)/\∀f,DR F w (I2 M q ⟨0,0,[]⟩) (sg ((q,.arr e sz [])::st.hp)) (.ref q 0 0 0) (.slice f 0 0):=by
 have Dr:=Rw st.hp q (.arr e sz []);have g:∀j,j≠q->I2 M q ⟨0,0,[]⟩ j=M j:=λ j i=>by simp[I2,i]
 have Mo:I2 M q ⟨0,0,[]⟩ q=⟨0,0,[]⟩:=by simp[I2]
 have K9:=Je Dr g k;refine ⟨l.change Dr g K9 rfl rfl rfl (Bk _) (λ b hb _=>rfl) ?_ (λ b h=>?_),λ f=>?_⟩
 . rw[Mo];exact ⟨HK,AT,AT,AT,λ h=>(h rfl).elim⟩
 . rw[Mo] at h;exact (h.1 rfl).elim
 . exact .ref q 0 0 0 sz 0 _ (by rw[Ee Dr];simp[AO.sg]) (Bk _) ⟨_,_,_,rfl⟩ (λ _=>⟨f,0,rfl,AQ,AQ,by rw[Mo],.inl rfl⟩)
theorem z7(I:Rel c st a w F M){q t t2 ty:AG}{s x:D}{vs vx:AJ}(hs:DR F w M (sg st.hp) s vs)(hx:DR F w M (sg st.hp) x vx){k:D->Hp->Prop}(a4:∀id i len kk,s≠ .nr id i len kk)
   (h:z8 P st.hp q t t2 s x k):∃d h' v w' M',k d h'/\Rel c {st with hp:=h'} a w' F M'/\DR F w' M' (sg h') d v/\(Builtin.append_ #[t,t2] ty #[vs,vx]).run P w= .ok v w':=by
 unfold z8 at h;split at h
 case h_2=>exact h.elim
 rename_i _ _ _ _ e z0 ti2 h1 h2;obtain ⟨i1,u1,z1,Og,H3,QT,e1⟩:=De h1;simp only[TI.mk.injEq] at e1;obtain rfl:=TK.of_slice e1.2.2.1.symm;obtain ⟨i2,u2,z2,H8,MN,a9,rfl⟩:=De h2;obtain ⟨Sc,h⟩:=h;have B:∀k,u2≠ .int k:=by rintro k rfl;simp[TK.of] at Sc
 split at h
 case h_2=>exact h.elim
 rename_i ti h3;obtain ⟨i,u,z,hi,hu,hz,rfl⟩:=De h3;obtain ⟨f,h',Ax3⟩:=Abn (P:=P) I hx h;clear h;obtain ⟨Yj,HO,T,h⟩:=h';simp only at HO T Yj;rw[Jz] at T;obtain ⟨news,E2⟩:=Ax3 i.size HO Yj;have Xl:∀(j:Nat) e,f[j]?=some e->e.length=i.size:=λ j e he=>Yj e (Bt he);have gr:∀{n cap:Nat},n+f.length<=140737488355328->n+f.length<=grownCap w (n+f.length) cap e/\grownCap w (n+f.length) cap e<=maxLen:=
   λ hle=>⟨grownCap_ge w _ _ _,grownCap_le_maxLen w _ _ _ (by unfold maxLen;omega)⟩
 split at h
 . rename_i es;obtain ⟨hn,a7,Vn,o,hle,U⟩:=h;simp only at Vn o;cases hs with
   | cl _ r hp _=>
     obtain ⟨Lu,holds⟩:=T5 (P:=P) hp Vn HO;by_cases H:f=[]
     . subst H;obtain rfl:es=[]:=by rcases a7 with h | h<;>first | exact h | exact (h rfl).elim
       have R:news=[]:=List.eq_nil_of_length_eq_zero (by simpa using E2.size);subst R;obtain ⟨Ql,Ym⟩:=I.Acg (e:=e) hn HO;have ET:=IN (P:=P) (w:=w) (ty:=ty) (w':=w) H3 MN B hi (base:=r) (n:=0) (cap:=0) (E2.len w) (E2.cells w rfl) AT (λ Y _=>rfl) (λ _=>rfl);exact ⟨_,_,_,w,_,U,Ql,Ym r,ET⟩
     . have a2:0<f.length:=Ca.2 H;have ET:=Jf (P:=P) (w:=w) (ty:=ty) H3 MN B hi hz (base:=r) (n:=es.length) (cap:=es.length) (E2.len w) (E2.cells w.drew rfl)
         (by have:=holds.cells w.drew rfl;exact this) AQ hle o
       obtain ⟨Ww,Q⟩:=gr (n:=es.length) (cap:=es.length) hle;have hlen:(es++f).length=es.length+f.length:=AT;obtain ⟨Ql,Ym⟩:=I.Ach (q:=q) (cap:=grownCap w (es.length+f.length) es.length e) (sz:=i.size) (es:=es++f) (e:=e)
         (vs:=Lu.toArray++news.toArray++Builtin.zeroCells z.cells (grownCap w (es.length+f.length) es.length e - (es.length+f.length)))
         (w':=w.drew.alloc (.cells (Lu.toArray++news.toArray++Builtin.zeroCells z.cells (grownCap w (es.length+f.length) es.length e - (es.length+f.length))) e))
         hn rfl rfl rfl rfl HO AQ Q (λ j x g=>by
           rw[BZ] at g;split at g
           . exact Vn x (Bt g)
           . exact Xl _ x g) (by
           simp only[Array.size_append,List.size_toArray,I5,T,holds.size,E2.size,<-Nat.add_mul]
           congr 1;omega) (λ j y p x E hx=>by
           have:=Kz (rest:=(Builtin.zeroCells z.cells (grownCap w (es.length+f.length) es.length e - (es.length+f.length))).toList) holds.size E2.size
             (λ j e he=>Vn e (Bt he)) Xl holds.data E2.data j y p x E hx
           simpa [List.getD,Array.getD_eq_getD_getElem?,<-Array.getElem?_toList] using this)
       rw[hlen] at Ym;exact ⟨_,_,_,_,_,U,Ql,by rw[hlen];exact Ym,ET⟩
 . rename_i es;cases V:f.isEmpty with
   | true=>
     obtain ⟨Vn,U⟩:=h.1 V;obtain rfl:f=[]:=by simpa using V
     have R:news=[]:=List.eq_nil_of_length_eq_zero (by simpa using E2.size);subst R;cases hs with
     | cz _ r hp=>
       have ET:=IN (P:=P) (w:=w) (ty:=ty) (w':=w) H3 MN B hi (base:=r) (n:=es.length) (cap:=es.length) (E2.len w) (E2.cells w rfl) AT (λ Y _=>rfl) (λ _=>rfl);exact ⟨_,_,_,w,M,U,I,.cz es r hp,ET⟩
   | false=>
   obtain ⟨hn,Vn,o,hle,U⟩:=h.2 V;have H:f≠[]:=by rintro rfl;cases V
   simp only at Vn o;cases hs with
   | cz _ r hp=>
     obtain ⟨Lu,holds⟩:=T5 (P:=P) hp Vn HO;have a2:0<f.length:=Ca.2 H;have ET:=Jf (P:=P) (w:=w) (ty:=ty) H3 MN B hi hz (base:=r) (n:=es.length) (cap:=es.length) (E2.len w) (E2.cells w.drew rfl)
       (by have:=holds.cells w.drew rfl;exact this) AQ hle o
     obtain ⟨Ww,Q⟩:=gr (n:=es.length) (cap:=es.length) hle;have hlen:(es++f).length=es.length+f.length:=AT;obtain ⟨Ql,Ym⟩:=I.Ach (q:=q) (cap:=grownCap w (es.length+f.length) es.length e) (sz:=i.size) (es:=es++f) (e:=e)
       (vs:=Lu.toArray++news.toArray++Builtin.zeroCells z.cells (grownCap w (es.length+f.length) es.length e - (es.length+f.length)))
       (w':=w.drew.alloc (.cells (Lu.toArray++news.toArray++Builtin.zeroCells z.cells (grownCap w (es.length+f.length) es.length e - (es.length+f.length))) e))
       hn rfl rfl rfl rfl HO AQ Q (λ j x g=>by
         rw[BZ] at g;split at g
         . exact Vn x (Bt g)
         . exact Xl _ x g) (by
         simp only[Array.size_append,List.size_toArray,I5,T,holds.size,E2.size,<-Nat.add_mul]
         congr 1;omega) (λ j y p x E hx=>by
         have:=Kz (rest:=(Builtin.zeroCells z.cells (grownCap w (es.length+f.length) es.length e - (es.length+f.length))).toList) holds.size E2.size
           (λ j e he=>Vn e (Bt he)) Xl holds.data E2.data j y p x E hx
         simpa [List.getD,Array.getD_eq_getD_getElem?,<-Array.getElem?_toList] using this)
     rw[hlen] at Ym;exact ⟨_,_,_,_,_,U,Ql,by rw[hlen];exact Ym,ET⟩
 . rename_i id off len N;split at h
   case h_2=>exact h.elim
   rename_i m sz es S;obtain ⟨rfl,rfl,rfl,rfl,rfl,o,hle,U⟩:=h;simp only at o;have a5:=I.heap.obj id _ S;obtain ⟨_,PV,a0,Vn,Ao1⟩:=a5;simp only at Vn PV;cases hs with
   | ref _ _ _ _ ZC W _ Lz a8 hv h2=>
     rw[DT S] at Lz;simp only[AO.sg,Bo,Sg.arr.injEq] at Lz;obtain ⟨rfl,rfl⟩:=Lz;obtain ⟨r,cap,rfl,h5,h6,h7,h8⟩:=h2 rfl;simp only[B2] at h7;subst h7;have hlen:(es++f).length=es.length+f.length:=AT;have FE:∀(j:Nat) x,(es++f)[j]?=some x->x.length=i.size:=λ j x g=>by
       rw[BZ] at g;split at g
       . exact Vn j x g
       . exact Xl _ x g
     have Dr:∀j,get (Dn st.hp id (.arr m i.size (es++f))) j=if j=id then some (.arr m i.size (es++f)) else get st.hp j:=DH _ _ _
     have V1:sg (Dn st.hp id (.arr m i.size (es++f))) id=some (.arr i.size (es++f).length):=by rw[Ee Dr];simp[AO.sg]
     by_cases Nf:es.length+f.length<=(M id).cap
     ·
       have K9:Ea M M (sg st.hp) (sg (Dn st.hp id (.arr m i.size (es++f)))):=by
         refine ⟨λ j g=>?_,λ j s2 W g=>?_,λ j s2 W k2 g=>?_⟩
         . have l:j≠id:=λ l=>by rw[l,DT S] at g;simp[AO.sg] at g
           rw[Ee Dr,if_neg l];exact ⟨g,rfl⟩
         . by_cases l:j=id
           . subst l;rw[DT S] at g;simp only[AO.sg,Bo,Sg.arr.injEq] at g;obtain ⟨rfl,rfl⟩:=g;exact ⟨_,V1,AQ,λ _=>rfl⟩
           . rw[Ee Dr,if_neg l];exact ⟨W,g,Bk _,λ _=>rfl⟩
         . have l:j≠id:=λ l=>by rw[l,DT S] at g;simp[AO.sg] at g
           rw[Ee Dr,if_neg l];exact ⟨W,k2,g,Bk _,Bk _,λ _=>⟨rfl,rfl⟩,λ _=>rfl⟩
       have a1:∀w',DR F w' M (sg (Dn st.hp id (.arr m i.size (es++f)))) (.ref id 0 (es++f).length (es++f).length) (.slice r (es.length+f.length) (M id).cap):=λ w'=>by
         rw[hlen] at V1 ⊢;exact .ref id 0 _ _ i.size _ _ V1 (Bk _) ⟨_,_,_,rfl⟩ (λ _=>⟨r,_,rfl,AQ,Nf,AQ,h8⟩)
       by_cases K:(M id).cap=0
       . have H:f=[]:=B0 AQ;subst H;have R:news=[]:=List.eq_nil_of_length_eq_zero (by simpa using E2.size);subst R;have ET:=IN (P:=P) (w:=w) (ty:=ty) (w':=w) H3 MN B hi (base:=r) (n:=es.length) (E2.len w) (E2.cells w rfl) Nf (λ Y _=>rfl) (λ _=>rfl);refine ⟨_,_,_,w,M,U,I.change (M':=M) Dr (λ _ _=>rfl) K9 rfl rfl rfl (Bk _) (λ b hb _=>rfl) ⟨HO,AQ,a0,FE,λ h=>(h K).elim⟩ (λ b h=>(h.1 K).elim),a1 w,ET⟩
       . obtain rfl:=h8.resolve_left K;obtain ⟨V3,row,Ek,La,D4⟩:=Ao1 K;have Boe:es.length*i.size+f.length*i.size<=row.size:=by rw[La,<-B7];exact CA _ Nf
         have UJ:∀v∈news,v.oneCell'=true:=λ v hv=>by
           obtain ⟨p,hp⟩:=B8.1 hv;have Dv:=(Bn.1 hp).1;have hs:=E2.size;have hdiv:p / i.size<f.length:=Nat.div_lt_of_lt_mul (by rw[Nat.mul_comm];omega);have E:f[p / i.size]?=some f[p / i.size]:=Bp hdiv;have Ao0:p % i.size<(f[p / i.size]).length:=by rw[Xl _ _ E];exact Nat.mod_lt _ HO
           have:=(E2.data _ _ _ _ E (Bp Ao0)).Mn;rwa[Nat.mul_comm,Nat.div_add_mod,Bu,hp] at this
         have Ly:=Iv P (M id).Fm (es.length*i.size) m news 0 row w Ek (by have:=E2.size;omega) UJ;simp only[B9] at Ly;have ET:=IN (P:=P) (w:=w) (ty:=ty) H3 MN B hi (base:=some ⟨(M id).Fm,0*i.size,none⟩) (n:=es.length) (E2.len w) (E2.cells w rfl) Nf
           (λ Y e3=>by cases e3;rw[Addr.add_lit];simp only[Nat.zero_mul,B2];exact Ly) (λ e3=>by cases e3)
         refine ⟨_,_,_,(w.setRow (M id).Fm (row.toList.take (es.length*i.size)++news++row.toList.drop (es.length*i.size+news.length)).toArray),M,U,I.change (M':=M) (w':=(w.setRow (M id).Fm (row.toList.take (es.length*i.size)++news++row.toList.drop (es.length*i.size+news.length)).toArray)) Dr (λ _ _=>rfl) K9 rfl rfl rfl AT (λ b hb EG=>setRow_other w _ b _ (λ e=>EG _ S ⟨K,e⟩)) ?_ (λ b hb=> .inl ⟨_,S,hb⟩),a1 _,ET⟩;have LA:∀{x v},PR F w x v->PR F (w.setRow (M id).Fm (row.toList.take (es.length*i.size)++news++row.toList.drop (es.length*i.size+news.length)).toArray) x v:=
           λ h=>h.keep (λ b hb=>setRow_other w _ b _ (λ e=>V3 (e ▸ hb))) (λ _ h=>h)
         have a6:(row.toList.take (es.length*i.size)).length=es.length*i.size:=AW;refine ⟨HO,AQ,a0,FE,λ _=>⟨V3,_,Ek.set ?_,?_,λ j y p x E hx=>?_⟩⟩
         . have ZY:=E2.size;have Z:(row.toList.take (es.length*i.size)++news++row.toList.drop (es.length*i.size+news.length)).length=row.size:=by
             simp only[Bw,BK,List.length_drop,Array.length_toList];omega
           exact Z
         . have ZY:=E2.size;have Z:(row.toList.take (es.length*i.size)++news++row.toList.drop (es.length*i.size+news.length)).length=row.size:=by
             simp only[Bw,BK,List.length_drop,Array.length_toList];omega
           exact Z.trans La
         . have:=Kz (F:=F) (w:=w) (rest:=row.toList.drop (es.length*i.size+news.length)) a6 E2.size Vn Xl (λ j y p x E hx=>by
             have h9:=D4 j y p x E hx;have Dv:=M7 (Bn.1 E).1 (Bk _) (show p<i.size by have:=(Bn.1 hx).1;have:=Vn j y E;omega);rw[Bu,BM,if_pos Dv];rwa[Bs,<-Cx] at h9) E2.data j y p x E hx
           have XB:=LA this;rw[Bs,CM];rwa[Bu] at XB
     ·
       have a2:0<f.length:=AQ;have Asi:Xd (M id) i.size es.length 0 es.length (.slice r es.length (M id).cap):=⟨r,_,rfl,AQ,h6,AQ,h8⟩;obtain ⟨Lu,holds⟩:=VG (P:=P) I.heap (.inl ⟨m,S⟩) Asi;have Bdi:(es.drop 0).take es.length=es:=AT;rw[Bdi] at holds;have ET:=Jf (P:=P) (w:=w) (ty:=ty) H3 MN B hi hz (base:=r) (n:=es.length) (cap:=(M id).cap) (E2.len w) (E2.cells w.drew rfl)
         (by have:=holds.cells w.drew rfl;exact this) AQ hle o
       obtain ⟨Ww,Q⟩:=gr (n:=es.length) (cap:=(M id).cap) hle;have hM:∀j,j≠id->I2 M id ⟨w.heap.size,grownCap w (es.length+f.length) (M id).cap m,[]⟩ j=M j:=λ j g=>by simp[I2,g]
       have Mo:I2 M id ⟨w.heap.size,grownCap w (es.length+f.length) (M id).cap m,[]⟩ id=⟨w.heap.size,grownCap w (es.length+f.length) (M id).cap m,[]⟩:=by simp[I2]
       have K9:Ea M (I2 M id ⟨w.heap.size,grownCap w (es.length+f.length) (M id).cap m,[]⟩) (sg st.hp) (sg (Dn st.hp id (.arr m i.size (es++f)))):=by
         refine ⟨λ j g=>?_,λ j s2 W g=>?_,λ j s2 W k2 g=>?_⟩
         . have l:j≠id:=λ l=>by rw[l,DT S] at g;simp[AO.sg] at g
           rw[Ee Dr,if_neg l,hM j l];exact ⟨g,rfl⟩
         . by_cases l:j=id
           . subst l;rw[DT S] at g;simp only[AO.sg,Bo,Sg.arr.injEq] at g;obtain ⟨rfl,rfl⟩:=g;exact ⟨_,V1,AQ,λ h=>AQ⟩
           . rw[Ee Dr,if_neg l,hM j l];exact ⟨W,g,Bk _,λ _=>rfl⟩
         . have l:j≠id:=λ l=>by rw[l,DT S] at g;simp[AO.sg] at g
           rw[Ee Dr,if_neg l,hM j l];exact ⟨W,k2,g,Bk _,Bk _,λ _=>⟨rfl,rfl⟩,λ _=>rfl⟩
       refine ⟨_,_,_,(w.drew.alloc (.cells (Lu.toArray++news.toArray++Builtin.zeroCells z.cells (grownCap w (es.length+f.length) (M id).cap m - (es.length+f.length))) m)),_,U,I.change (w':=(w.drew.alloc (.cells (Lu.toArray++news.toArray++Builtin.zeroCells z.cells (grownCap w (es.length+f.length) (M id).cap m - (es.length+f.length))) m))) Dr hM K9 rfl rfl rfl AT (λ b hb _=>alloc_old w.drew _ b hb) ?_ (λ b hb=> .inr (by have:b=_:=hb.2;rw[this,Mo];exact Bk _)),?_,ET⟩
       . rw[Mo];refine ⟨HO,AW,Q,FE,λ _=>⟨λ hF=>Nat.lt_irrefl _ (I.keep.Fl _ hF),_,.of0 (heap_alloc_new w.drew _),?_,λ j y p x E hx=>?_⟩⟩
         . simp only[Array.size_append,List.size_toArray,I5,T,holds.size,E2.size,<-Nat.add_mul]
           congr 1;omega
         . have:=Kz (F:=F) (w:=w) (rest:=(Builtin.zeroCells z.cells (grownCap w (es.length+f.length) (M id).cap m - (es.length+f.length))).toList) holds.size E2.size
             Vn Xl holds.data E2.data j y p x E hx
           have a3:PR F w x ((Lu.toArray++news.toArray++Builtin.zeroCells z.cells (grownCap w (es.length+f.length) (M id).cap m - (es.length+f.length))).getD (j*i.size+p) undef):=by
             simpa [List.getD,Array.getD_eq_getD_getElem?,<-Array.getElem?_toList] using this
           exact a3.keep (λ b hb=>alloc_old w.drew _ b (I.keep.Fl b hb)) (λ _ h=>h)
       . rw[hlen] at V1 ⊢;exact .ref id 0 _ _ i.size _ _ V1 (Bk _) ⟨_,_,_,rfl⟩ (λ _=>⟨_,_,rfl,AQ,Ww,by rw[Mo];exact B2 _,.inr (by rw[Mo];simp)⟩)
 . exact (a4 _ _ _ _ rfl).elim
 . exact h.elim
theorem Aq2(e:Rel c st a w F M){t t2 ty:AG}{s x:D}{vs b:AJ}(f:DR F w M (sg st.hp) s vs)(hx:DR F w M (sg st.hp) x b){k:D->Hp->Prop}
   (h:Bgx P st.hp t s x k):∃d h' v w' M',k d h'/\Rel c {st with hp:=h'} a w' F M'/\DR F w' M' (sg h') d v/\(Builtin.copy_ #[t,t2] ty #[vs,b]).run P w= .ok v w':=False.elim h
theorem Aw6{h:Hp}{x:D}{k:Ag->Prop}(b:R6 h x k):∃e,k e:=by
 unfold R6 at b;split at b
 . exact ⟨_,b⟩
 . exact ⟨_,b⟩
 . exact ⟨_,b⟩
 . split at b
   . exact ⟨_,b.2⟩
   . exact ⟨_,b.2⟩
   . exact b.elim
 . exact b.elim
theorem Aro{h h':Hp}{x:D}{k k':Ag->Prop}(g:∀j o,get h j=some o->(∃t sz es,o= .arr t sz es)∨(∃sz es,o= .Oh sz es)->get h' j=some o)(e:∀i,k i->k' i)(b:R6 h x k):R6 h' x k':=by
 unfold R6 at b ⊢;split at b
 . exact e _ b
 . exact e _ b
 . exact e _ b
 . split at b
   . rename_i f;rw[g _ _ f (.inl ⟨_,_,_,rfl⟩)];exact ⟨b.1,e _ b.2⟩
   . rename_i f;rw[g _ _ f (.inr ⟨_,_,rfl⟩)];exact ⟨b.1,e _ b.2⟩
   . exact b.elim
 . exact b.elim
theorem Aql(Y:Rel c st a w F M){q t t2 ty:AG}{s x:D}{vs vx:AJ}(Z:DR F w M (sg st.hp) s vs)(hx:DR F w M (sg st.hp) x vx){k:D->Hp->Prop}
   (h:z8 P st.hp q t t2 s x k):∃d h' v w' M',k d h'/\Rel c {st with hp:=h'} a w' F M'/\DR F w' M' (sg h') d v/\(Builtin.append_ #[t,t2] ty #[vs,vx]).run P w= .ok v w':=by
 by_cases B:∀id i len g,s≠ .nr id i len g
 . exact z7 Y Z hx B h
 . have:∃id i len g,s= .nr id i len g:=by
     cases s with
     | nr id i len g=>exact ⟨id,i,len,g,rfl⟩
     | _=>exact (B (λ _ _ _ _=>AT)).elim
   obtain ⟨id,i,len,g,rfl⟩:=this;have Be3:∃l f b E rows,get st.hp id=some (.Fc l f b E rows none)/\g=E/\len=(rows.getD i []).length/\i<rows.length/\get st.hp q=none:=by
     have n:=h;unfold z8 at n;split at n
     case h_2=>exact n.elim
     obtain ⟨_,n⟩:=n;split at n
     case h_2=>exact n.elim
     obtain ⟨ys,_,_,_,u⟩:=Aw6 n;simp only at u;split at u
     . rename_i l f b E rows p;exact ⟨l,f,b,E,rows,p,u.1.2.2⟩
     . exact u.elim
   obtain ⟨l,f,b,E,rows,p,rfl,rfl,hi,H⟩:=Be3;have Q:rows[i]?=some (rows.getD i []):=by simp[List.getD,hi]
   obtain ⟨I,N,K9,KF⟩:=Y.By5 p Q H;generalize y:(λ j=>if j=q then (⟨I.1,I.2,[]⟩:Mb) else if j=id then {(M id) with xs:=(M id).xs.set i (0,0)} else M j)=M1 at K9 KF;have Ad2:q≠id:=λ e=>by rw[e,p] at H;cases H
   have Afq:sg ((q,AO.arr f b (rows.getD i []))::Dn st.hp id (.Fc l f b (g+1) rows (some i))) q=some (.arr b (rows.getD i []).length):=by simp[sg,Dj,AO.sg]
   have R:DR F w M1 (sg ((q,AO.arr f b (rows.getD i []))::Dn st.hp id (.Fc l f b (g+1) rows (some i)))) (.ref q 0 (rows.getD i []).length (rows.getD i []).length) vs:=by
     cases Z with
     | nr _ _ _ _ ZC m k3 _ Vk hN hv hl=>
       have r:=DT p;rw[Vk] at r;simp only[AO.sg,Bo,Sg.Fc.injEq] at r;obtain ⟨_,_,rfl⟩:=r;obtain ⟨a0,U,g2,ad,V,g4⟩:=hl rfl;rw[N] at U;cases U;refine .ref q 0 _ _ b _ vs Afq (Bk _) ⟨_,_,_,V⟩ (λ _=>⟨ad,I.2,V,AQ,g2,by rw[<-y];simp,?_⟩);rw[<-y]
       simpa using g4
   have MM:=hx.keep (w':=w) (λ _ _=>rfl) (λ _ h=>h) K9;have Bdx:get ((q,AO.arr f b (rows.getD i []))::Dn st.hp id (.Fc l f b (g+1) rows (some i))) q=some (.arr f b (rows.getD i [])):=by simp[Dj]
   have Brs:∀K,Dn ((q,AO.arr f b (rows.getD i []))::Dn st.hp id (.Fc l f b (g+1) rows (some i))) q (.arr f b K)=(q,.arr f b K)::Dn st.hp id (.Fc l f b (g+1) rows (some i)):=λ K=>by simp[Dn]
   refine z7 (s:= .ref q 0 (rows.getD i []).length (rows.getD i []).length) (q:=q) KF R MM (λ _ _ _ _=>AT) ?_;unfold z8 at h ⊢;split at h
   case h_2=>exact h.elim
   rename_i S T;(try simp only[S,T]);obtain ⟨Sc,h⟩:=h;refine ⟨Sc,?_⟩;split at h
   case h_2=>exact h.elim
   refine Aro (λ j o z ho=>?_) (λ ys Yj=>?_) h
   . have u:j≠q:=λ e=>by rw[e,H] at z;cases z
     have h2:j≠id:=λ e=>by
       rw[e,p] at z;cases z;rcases ho with ⟨_,_,_,W⟩ | ⟨_,_,W⟩<;>cases W
     rw[Dj,if_neg (CK u),DH,if_neg h2];exact z
   . obtain ⟨y1,y2,y3,Yj⟩:=Yj;simp only at Yj;rw[p] at Yj;obtain ⟨⟨y4,y5,_⟩,y6,y7,y8⟩:=Yj;refine ⟨y1,y2,y3,?_⟩;simp only[Bdx];subst y4;refine ⟨trivial,trivial,trivial,rfl,y5,y6,y7,?_⟩;rw[Brs];exact y8
theorem Aat{v:AJ}(h:M9 v= .cl []):v= .slice none 0 0:=by
 unfold M9 at h;split at h<;>first | rfl | cases h
theorem Atv(hr:Rel c st a w F M){id N t t2 ty:AG}{x:D}{vs vx:AJ}(hs:DR F w M (sg st.hp) (.E3 id N) vs)(hx:DR F w M (sg st.hp) x vx){k:D->Hp->Prop}
   (h:Bhj P st.hp t t2 id N x k):∃d h' v w' M',k d h'/\Rel c {st with hp:=h'} a w' F M'/\DR F w' M' (sg h') d v/\(Builtin.append_ #[t,t2] ty #[vs,vx]).run P w= .ok v w':=by
 unfold Bhj at h;split at h
 case h_2=>exact h.elim
 rename_i s1 b1 e z1 s2 b2 e5 z2 o ht W;split at h
 case h_2=>exact h.elim
 rename_i b3 e6 t7 y0 E n n' Y y;split at h
 case h_2=>exact h.elim
 rename_i e2 sz I e' a3 Va kk rows B hg;obtain ⟨⟨⟨rfl,rfl,rfl⟩,rfl,rfl,hN,hle,T⟩,hk⟩:=h;obtain ⟨i1,u1,a9,Og,H3,QT,e1⟩:=De ht;simp only[TI.mk.injEq] at e1;obtain rfl:=TK.of_slice e1.2.2.1.symm;obtain ⟨i2,u2,b0,H8,MN,a8,q⟩:=De W;simp only[TI.mk.injEq] at q;obtain rfl:=TK.of_slice q.2.2.1.symm;obtain ⟨i,u,z,hi,hu,hz,r⟩:=De Y;simp only[TI.mk.injEq] at r;obtain ⟨s,H,a4,e7⟩:=r;have a0:=Aat e7.symm;subst a0;have hb:=hr.heap.obj o _ y;obtain ⟨row,⟨fr,Ek,a5⟩,a7,D4,l,a6⟩:=RM.row hb;simp only[Nat.zero_mul,B2] at l;obtain ⟨g,S,Bzi⟩:∃g,row.getD 0 undef= .slice g I.length (M E).cap/\((M E).cap=0∨g=some ⟨(M E).Fm,0,none⟩):=by
   generalize row.getD 0 undef=v at l;cases l with
   | ref _ _ _ _ a1 n1 _ b R Z h2=>
     rw[DT B] at b;simp only[AO.sg,Bo,Sg.arr.injEq] at b;obtain ⟨rfl,rfl⟩:=b;obtain ⟨g,cap,rfl,g1,g2,K,m⟩:=h2 rfl;rw[B2] at K;subst K;refine ⟨g,rfl,?_⟩
     simpa using m
 obtain ⟨p,rfl⟩:∃p,vx= .slice (some ⟨(M o).Fm,0,none⟩) 1 p:=by
   cases hx with
   | ref _ _ _ _ a1 n1 _ b R Z h2=>
     rw[DT y] at b;simp only[AO.sg,Bo,Sg.arr.injEq,Br,Bx] at b;obtain ⟨rfl,rfl⟩:=b;obtain ⟨a2,Cai,rfl,g1,g2,K,m⟩:=h2 rfl;have:=RM.le hb;simp only[Br,Bx] at this;rcases m with m | m
     . omega
     . rw[m];exact ⟨Cai,AT⟩
 have Byp:0<row.size:=by
   have:=RM.le hb;simp only[Br,Bx] at this;omega
 have Ahb:∀f:World,(Builtin.lenOf (.slice (some ⟨(M o).Fm,0,none⟩) 1 p)).run P f= .ok 1 f:=λ f=>by simp[Builtin.lenOf]
 have U:∀f:World,f.heap=w.heap->(Builtin.firstCells i.size 1 (.slice (some ⟨(M o).Fm,0,none⟩) 1 p)).run P f= .ok #[.slice g I.length (M E).cap] f:=λ f Q=>by
   have:=run_firstCells_some (P:=P) f i.size 1 ⟨(M o).Fm,0,none⟩ 1 p [.slice g I.length (M E).cap] (by simp[<-s]) (λ j v V=>by
     cases j with
     | zero=>
       simp only[BE,Bo] at V;subst V;rw[Addr.add_lit,cell_of_row f (M o).Fm (0+0) row _ fr (by rw[Q];exact Ek),<-S];simp[Bs,Byp]
     | succ j=>simp at V)
   simpa using this
 obtain ⟨v,w',M',Q,h2,h3⟩:=hr.Bkf (P:=P) (ty:=ty) hg hN hs B Bzi H3 MN (λ k h=>by cases h) hi hz s.symm rfl Ahb U hle (by rw[<-H];exact T);exact ⟨_,_,v,w',M',hk,Q,h2,h3⟩
theorem Atw(b:Rel c st a w F M){q t t2 ty:AG}{s x:D}{vs f:AJ}(e:DR F w M (sg st.hp) s vs)(hx:DR F w M (sg st.hp) x f){k:D->Hp->Prop}
   (h:Bhk P st.hp q t t2 s x k):∃d h' v w' M',k d h'/\Rel c {st with hp:=h'} a w' F M'/\DR F w' M' (sg h') d v/\(Builtin.append_ #[t,t2] ty #[vs,f]).run P w= .ok v w':=by
 unfold Bhk at h;split at h
 . exact Atv b e hx h
 . exact Aql b e hx h
end
end Go.Am
namespace Go.Am
open Go
section
variable {P:AK} {c:Ctx} {st:St} {a:Act} {w:AI} {F:Nat->Prop} {M:Nat->Mb}
theorem Bcn{d:D}{k:Pd->Hp->Prop}(h:PG [] d k):∃x,k x []/\∀(F:Nat->Prop) (w:AI) (M:Nat->Mb) (s:Nat->Option Sg) v,DR F w M s d v->PR F w x v:=by
 cases d with
 | p x=>exact ⟨x,h,λ F w M s v b=>by cases b with | p hx=>exact hx⟩
 | cl f=>exact ⟨_,h,λ F w M s v b=>by cases b with | cl _ e hx _=>exact hx⟩
 | cz f=>exact ⟨_,h,λ F w M s v b=>by cases b with | cz _ e hx=>exact hx⟩
 | _=>simp[PG,get] at h
theorem Agu:∀{ds:Ai} {k:Ax->Hp->Prop},Lx [] ds k->∃b,k b []/\b.length=ds.length/\
   ∀(F:Nat->Prop) (w:AI) (M:Nat->Mb) (s:Nat->Option Sg) (vs:At),Nk F w M s ds vs->∀(i:Nat) x,b[i]?=some x->PR F w x (vs.getD i undef)
 | [],k,h=>⟨[],h,rfl,λ _ _ _ _ _ _ i x hx=>by simp at hx⟩
 | d::ds,k,h=>by
   obtain ⟨x,j,h2⟩:=Bcn h;obtain ⟨b,l,m,n⟩:=Agu j;refine ⟨x::b,l,by simp[m],λ F w M s vs f i y g=>?_⟩;cases vs with
   | nil=>have:=f.1;simp at this
   | cons v vs=>
     cases i with
     | zero=>
       simp only[BE,Bo] at g;subst g;have:=f.2 0 d rfl;exact h2 F w M s _ (by simpa [List.getD] using this)
     | succ i=>
       simp only[List.getElem?_cons_succ] at g;have:=n F w M s vs ⟨by have:=f.1;simpa using this,λ i e o=>by have:=f.2 (i+1) e (by simpa using o);simpa [List.getD] using this⟩ i y g
       simpa [List.getD] using this
def Bpf(P:AK)(c:Ctx)(st:St)(a:Act)(w:AI)(F:Nat->Prop)(o:Oper)(k:D->Hp->Prop):Prop:=
 ∃d f v e F' M',k d f/\Rel c {st with hp:=f} a e F' M'/\(∀b,F b->F' b)/\DR F' e M' (sg f) d v/\
   ((execOp a.eval o).run P w= .ok (.value v) e∨(v=undef/\(execOp a.eval o).run P w= .ok .skip e))
theorem Aw9(b:Hp)(id:Nat)(o e:AO):Dn (Dn b id o) id e=Dn b id e:=by
 induction b with
 | nil=>simp[Dn]
 | cons p r f=>
   obtain ⟨j,x⟩:=p;by_cases h:j=id
   . subst h;simp[Dn]
   . simp[Dn,h,f]
theorem Acf(z:Rel c st a w F M){id i n:Nat}{d:D}{E B:AJ}(hx:DR F w M (sg st.hp) (.R9 id i n) E)(R:DR F w M (sg st.hp) d B){k:Hp->Prop}(h:Td st.hp id i n d k):
   ∃h' w' M' ad,k h'/\Rel c {st with hp:=h'} a w' F M'/\E= .pointer (some ad)/\(storeCells ad B.cells.toList).run P w= .ok () w':=by
 unfold Td at h;split at h
 case h_2=>exact h.elim
 rename_i q off len N;split at h
 case h_2=>exact h.elim
 rename_i p ZC f t e sz k2 rows hole l m;obtain ⟨⟨rfl,rfl,rfl,rfl,rfl,rfl,S⟩,y⟩:=h;have Ad2:q≠id:=λ e=>by rw[e,m] at l;cases l
 cases hx with
 | R9 _ _ _ U m1 o b x Z r hb=>
   rw[DT m] at x;simp only[AO.sg,Bo,Sg.Fc.injEq] at x;obtain ⟨rfl,rfl,rfl⟩:=x;obtain ⟨rfl,Qn⟩:=hb rfl;cases R with
   | ref _ _ _ _ V n3 _ Vk Q T s=>
     rw[DT l] at Vk;simp only[AO.sg,Bo,Sg.arr.injEq] at Vk;obtain ⟨rfl,rfl⟩:=Vk;obtain ⟨ad,W,rfl,_,PV,j,u⟩:=s rfl;rw[B2] at j;subst j;have D4:(Value.slice ad f.length (M q).cap).cells.toList=[Value.slice ad f.length (M q).cap]:=rfl;rw[D4];have fin:∀{Ti:Hp} {M1:Nat->Mb} {o:Nat},Rel c {st with hp:=Ti} a w F M1->get Ti id=some (.Fc t p ZC o rows (some i))->get Ti q=some (.arr p ZC f)->M1 q=M q->(M1 id).Fm=(M id).Fm->
         ∃w' M',Rel c {st with hp:=Dn (Dn Ti id (.Fc t p ZC (o+1) (rows.set i f) none)) q (.Ij (F7 (.arr ZC (f.length+1))))} a w' F M'/\(storeCells ⟨(M id).Fm,i,none⟩ [Value.slice ad f.length (M q).cap]).run P w= .ok () w':=by
       intro Ti M1 o KF Ww v Mo Qo;obtain ⟨w',g,h2,row,H,Y,I⟩:=KF.Bc8 (P:=P) Ww r (Value.slice ad f.length (M q).cap) rfl;have K:=h2.fill Ww r v ⟨row,H,ad,by rw[Mo];exact I,by rw[Mo];simpa using u⟩;rw[Qo] at g;exact ⟨w',_,K,g⟩
     rcases S with rfl | rfl
     . have KF:=z.drop m r;obtain ⟨w',M',g,h2⟩:=fin KF (by rw[DH,if_pos rfl]) (by rw[DH,if_neg Ad2];exact l) (by simp[Ad2]) AT;rw[Aw9] at g;exact ⟨_,w',M',_,y,g,rfl,h2⟩
     . obtain ⟨w',M',g,h2⟩:=fin z m l rfl rfl;exact ⟨_,w',M',_,y,g,rfl,h2⟩
theorem Ajs(B:Rel c st a w F M){t:AG}{x d:D}{r m:AJ}(hx:DR F w M (sg st.hp) x r)(I:DR F w M (sg st.hp) d m){k:Hp->Prop}(h:Abm P st.hp t x d k):
   ∃h' w' F' M',k h'/\Rel c {st with hp:=h'} a w' F' M'/\(∀b,F b->F' b)/\(Instr.storeAt t r m).run P w= .ok () w':=by
 unfold Abm at h;split at h
 case h_2=>exact h.elim
 rename_i ti W;obtain ⟨i,u,z,U,hu,hz,rfl⟩:=De W;split at h
 case h_2=>exact h.elim
 rename_i cs Ly;obtain ⟨T,Q,g⟩:=Q7 I Ly;obtain ⟨hlen,h⟩:=h;simp only at hlen;have H:m.cells.size=i.size:=by have:=g.1;simp at this;omega
 have run:∀{o w'},r= .pointer (some o)->(storeCells o m.cells.toList).run P w= .ok () w'->(Instr.storeAt t r m).run P w= .ok () w':=by
   rintro o w' rfl f;simp[Instr.storeAt,Instr.sureAddr,storeVar,Fb U,H,f]
 split at h
 . rename_i id off;split at h
   case h_2=>exact h.elim
   rename_i Y p;obtain ⟨hle,n⟩:=h;cases hx with
   | ptr _ _ K=>
     obtain ⟨w',f,s⟩:=B.Ams (P:=P) p g Q hle;exact ⟨_,w',F,M,n,s,λ _ h=>h,run rfl f⟩
 . rename_i id j q N;obtain ⟨xs,h',F',l,Ql,v,E,y,I3⟩:=S4 cs m.cells.toList B g h;split at l
   case h_2=>exact l.elim
   rename_i e sz Z p;obtain ⟨R,V,n⟩:=l;cases hx with
   | ea _ _ _ _ ZC n2 _ K S hv h2=>
     have Ud:=DT p;rw[E,K] at Ud;simp only[AO.sg,Bo,Sg.arr.injEq] at Ud;obtain ⟨rfl,rfl⟩:=Ud;obtain ⟨rfl,Dv⟩:=h2 R;obtain ⟨w',f,s⟩:=Ql.Bc9 (P:=P) p Dv y I3 V;exact ⟨_,w',F',M,n,s,v,run rfl f⟩
 . obtain ⟨h',w',M',o,n,Ql,rfl,f⟩:=Acf (P:=P) B hx I h;exact ⟨h',w',F,M',n,Ql,λ _ h=>h,run rfl f⟩
 . exact h.elim
theorem Axb(f:Rel c st a w F M)(place:Nat->Option (Nat×Nat)){parts:AF}{n:Nat}{vs:Array Value}(e:vs.size=n){cs:Ai}
   (h:J2 place (List.replicate n .bad) (parts.map λ q=>(q.1,ev st q.2))=some cs):
   ∃vs',Instr.fill place vs (parts.map λ q=>(q.1,a.eval q.2))=some vs'/\Nk F w M (sg st.hp) cs vs'.toList:=
 V8 f place parts _ vs cs ⟨by simp[e],λ i d b=>by
   rw[CD] at b;split at b
   . cases b;exact .bad _
   . cases b⟩ h
theorem Bnl(t:AG)(cs:Ai):W8 (npT t cs) t=t:=by
 unfold W8 npT;split<;>split<;>simp_all
theorem Anf:∀(l:At) (j:Nat),(UG l)[j]?=(l[j]?).map M9
 | [],j=>by simp[UG]
 | v::r,0=>by simp[UG]
 | v::r,j+1=>by simp[UG,Anf r j]
theorem Bau(z:AJ){j:Nat}(h:(M9 z).cells[j]?=some (.cl [])):z.cells.getD j undef= .slice none 0 0:=by
 have one:∀v:Value,[M9 v][j]?=some (.cl [])->(#[v]:Array Value).getD j undef= .slice none 0 0:=by
   intro v e;cases j with
   | zero=>simp only[BE,Bo] at e;rw[Aat e];rfl
   | succ j=>simp at e
 cases z with
 | agg cs=>
   simp only[M9,D.cells] at h;rw[Anf] at h;cases b:cs.toList[j]? with
   | none=>rw[b] at h;cases h
   | some v=>
     rw[b] at h;simp only[Ci,Bo] at h;rw[Aat h] at b;simp only[Value.cells];rw[Cx] at b;rw[Bs,b];rfl
 | slice a l c=>
   refine one _ ?_;have:(M9 (.slice a l c)).cells=[M9 (.slice a l c)]:=by
     unfold M9;split<;>first | rfl | (rename_i f;cases f)
   rwa[this] at h
 | pointer a=>
   refine one _ ?_;cases a<;>exact h
 | _=>exact one _ h
theorem sameBits_fit{b:KK}{key:Pd}(e:b.fit key=true):Instr.sameBits 10000 key.val key.val=true:=by
 cases b<;>cases key<;>simp[KK.fit] at e<;>simp[Instr.sameBits,Pd.val,MapKept.bytes_beq]
theorem Rel.Bnm(f:Rel c st a w F M){q:Nat}(k:get st.hp q=none):
   Rel c {st with hp:=(q,.mp [])::st.hp} a (w.alloc (.map #[] 0)) F (I2 M q ⟨w.heap.size,0,[]⟩)/\
   DR F (w.alloc (.map #[] 0)) (I2 M q ⟨w.heap.size,0,[]⟩) (sg ((q,.mp [])::st.hp)) (.mv q) (.map (some w.heap.size)):=by
 have Dr:=Rw st.hp q (.mp []);have e:∀j,j≠q->I2 M q ⟨w.heap.size,0,[]⟩ j=M j:=λ j i=>by simp[I2,i]
 have Mo:I2 M q ⟨w.heap.size,0,[]⟩ q=⟨w.heap.size,0,[]⟩:=by simp[I2]
 have K9:=Je Dr e k;have hold:∀b,b<w.heap.size->(w.alloc (.map #[] 0)).heap[b]?=w.heap[b]?:=λ b hb=>alloc_old w _ b hb;refine ⟨f.change Dr e K9 rfl rfl rfl AT (λ b hb _=>hold b hb) ?_ (λ b hb=> .inr (by have:b=_:=hb;rw[this,Mo];exact Bk _)),?_⟩
 . rw[Mo];refine ⟨λ g=>Nat.lt_irrefl _ (f.keep.Fl _ g),⟨#[],0,heap_alloc_new w _,rfl⟩,AT⟩
 . have:=DR.mv (F:=F) (w:=w.alloc (.map #[] 0)) (M:=I2 M q ⟨w.heap.size,0,[]⟩) (s:=sg ((q,.mp [])::st.hp)) q (by rw[Ee Dr];simp[AO.sg]);rwa[Mo] at this
theorem Akd(l:Rel c st a w F M){t:AG}{m i x:D}{k:Hp->Prop}(h:As6 P st.hp t m i x k){e b f:AJ}(j:DR F w M (sg st.hp) m e)(g:DR F w M (sg st.hp) i b)(hx:DR F w M (sg st.hp) x f):
   ∃h' w',k h'/\Rel c {st with hp:=h'} a w' F M/\(Instr.mapUpdate t e b f).run P w= .ok () w':=False.elim h
theorem As7(f:Rel c st a w F M){o:Oper}{q:Nat}{k:D->Hp->Prop}(h:Awn P st q o.op k):Bpf P c st a w F o k:=by
 unfold Awn at h;split at h
 ·
   rename_i t E;split at h
   case h_2=>exact h.elim
   rename_i ti Z;obtain ⟨i,u,z,T,hu,hz,rfl⟩:=De Z;split at h
   case h_2=>exact h.elim
   rename_i cs Ly;obtain ⟨W,h1,v⟩:=Q7 (NI F w M (sg st.hp) z) Ly;obtain ⟨K,B⟩:=h;obtain ⟨h2,r⟩:=f.Bct t (npT t cs) (Bnl t cs) K v h1 (λ _ _ j b=>Bau z (W ▸ b));refine ⟨_,_,_,_,F,_,B,h2,λ _ h=>h,r,.inl ?_⟩;simp[execOp,E,Instr.alloc,N5 T hz,newVar,newRow]
 ·
   rename_i t x E;split at h
   case h_2=>exact h.elim
   rename_i cs Ly;obtain ⟨W,h1,v⟩:=Q7 (Di f x) Ly;obtain ⟨K,B⟩:=h;obtain ⟨h2,r⟩:=f.Bct t 0 rfl K v h1 (Exa.zero _ _);refine ⟨_,_,_,_,F,_,B,h2,λ _ h=>h,r,.inl ?_⟩;simp[execOp,E,Instr.box,newVar,newRow]
 ·
   rename_i t x y E;obtain ⟨h',w',F',M',B,h2,hF,r⟩:=Ajs f (Di f x) (Di f y) h;refine ⟨_,h',undef,w',F',M',B,h2,hF,.Em [] #[] rfl (λ i d hd=>by simp at hd),.inr ⟨rfl,?_⟩⟩;simp[execOp,E,r]
 ·
   rename_i t E;obtain ⟨K,B⟩:=h;obtain ⟨h2,r⟩:=f.Bnm K;refine ⟨_,_,_,_,F,_,B,h2,λ _ h=>h,r,.inl ?_⟩;simp[execOp,E,Instr.makeMap]
 ·
   rename_i t m i x E;obtain ⟨h',w',B,h2,r⟩:=Akd f h (Di f m) (Di f i) (Di f x);refine ⟨_,h',undef,w',F,M,B,h2,λ _ h=>h,.Em [] #[] rfl (λ i d hd=>by simp at hd),.inr ⟨rfl,?_⟩⟩;simp[execOp,E,r]
 ·
   rename_i t n parts E;split at h
   case h_2=>exact h.elim
   rename_i _ _ e z0 Z;obtain ⟨i1,u1,z1,Og,H3,QT,V⟩:=De Z;simp only[TI.mk.injEq] at V;obtain rfl:=TK.of_slice V.2.2.1.symm;split at h
   case h_2=>exact h.elim
   rename_i ti R;obtain ⟨i,u,z,T,hu,hz,rfl⟩:=De R;obtain ⟨HO,Byz,h⟩:=h;simp only at HO Byz h;split at h
   case h_2=>exact h.elim
   rename_i cs hf;obtain ⟨Q,I,v⟩:=Axb f _ (vs:=(Array.range (n*i.size)).map ((if n*i.size=0 then #[] else z.cells)[· % (if n*i.size=0 then #[] else z.cells).size]!)) AT hf;obtain ⟨xs,h',F',⟨K,B⟩,Ql,a1,b0,s,I3⟩:=S4 cs Q.toList f v h;have a9:cs.length=n*i.size:=by
     have:∀(ps:Ar) (c0 c1:Ai),J2 (λ j=>some (j*i.size,i.size)) c0 ps=some c1->c1.length=c0.length:=by
       intro ps
       induction ps with
       | nil=>intro c0 c1 h;simp[J2] at h;rw[h]
       | cons p ps ih=>
         intro c0 c1 h;obtain ⟨j,d⟩:=p;simp only[J2] at h;split at h
         . rename_i hc;rw[ih _ _ h];simp;omega
         . cases h
     have:=this _ _ _ hf
     simpa using this
   have S:Q.size=n*i.size:=by have:=v.1;simp at this;omega
   have b1:xs.length=n*i.size:=by simp at s;omega
   obtain ⟨h2,r⟩:=Ql.Ach (q:=q) (cap:=n) (sz:=i.size) (es:=chunk i.size n xs) (e:=e) (vs:=Q) (w':=w.alloc (.cells Q e)) K rfl rfl rfl rfl HO (by rw[RA];exact Bk _)
     (by unfold maxLen;have:n<=n*i.size:=Nat.le_mul_of_pos_right _ HO;omega) (λ j x b=>by
       rw[Zd] at b;split at b
       . rename_i Dv;cases b;have:=M7 (j:=i.size - 1) Dv (Bk _) (show i.size - 1<i.size by omega);simp;omega
       . cases b) S (λ j x p y b hp=>by
       rw[Zd] at b;split at b
       . cases b;rw[BM] at hp;split at hp
         . rw[BX] at hp;have:=I3 _ y hp;rwa[Bu,Cx,<-Bs] at this
         . cases hp
       . cases b)
   rw[RA] at r;refine ⟨_,_,_,_,F',_,B,h2,a1,r,.inl ?_⟩;have Y:(parts.map λ (i,x)=>(i,a.eval x)).toList=parts.toList.map λ q=>(q.1,a.eval q.2):=AT;have a4:¬(16777216<n*i.size):=AQ;simp only[execOp,E,Instr.buildSlice,Sem.run_bind,run_underlying H3,Result.andThen_ok,Fb T];by_cases h0:n*i.size=0
   . have e0:∀g:Nat->Value,(Array.range 0).map g=#[]:=λ g=>by simp[Array.range_zero']
     simp only[h0,B5,e0] at I ⊢;simp[Y,I,newRow,e0]
   . simp only[h0,Cy] at I ⊢;simp[a4,N5 T hz,Y,I,newRow]
 ·
   rename_i t l m E;split at h
   case h_2=>exact h.elim
   rename_i _ _ e z0 k1 l' k2 U Z hl hm;obtain ⟨i1,u1,z1,Og,H3,QT,V⟩:=De Z;simp only[TI.mk.injEq] at V;obtain rfl:=TK.of_slice V.2.2.1.symm;split at h
   case h_2=>exact h.elim
   rename_i ti R;obtain ⟨i,u,z,T,hu,hz,rfl⟩:=De R;obtain ⟨HO,K,⟨h0,a3,a2,hle⟩,N,h⟩:=h;simp only at HO a2 N;obtain ⟨zs,B,a8,a7⟩:=Agu h;have s:=Di f l;have H:=Di f m;rw[hl] at s;rw[hm] at H;generalize S:a.eval l=vl at s;generalize a5:a.eval m=vm at H;cases s with | p s=>cases s;cases H with | p H=>
     cases H;have ET:=run_make (P:=P) w t e i z H3 T hz k1 k2 l' U h0 a3 (by rw[Int.mul_comm];omega) AQ;rw[Jz] at N;have a6:Nk F w M (sg st.hp) (M9 z).cells z.cells.toList:=by
       have:(M9 z).cells.all D.one=true∨∃cs,M9 z= .agg cs:=by
         cases a0:M9 z with
         | agg cs=>exact .inr ⟨cs,rfl⟩
         | Em cs=>rw[a0] at h;simp[D.cells,Lx,PG] at h
         | bad=>rw[a0] at h;simp[D.cells,Lx,PG] at h
         | _=>left;simp[D.cells,D.one]
       exact (NI F w M (sg st.hp) z).cells this
     have Byc:=a7 F w M (sg st.hp) _ a6;have Byb:zs.length=i.size:=by rw[a8,Jz];exact N
     obtain ⟨h2,r⟩:=f.Ach (q:=q) (cap:=U.toNat) (sz:=i.size) (es:=List.replicate l'.toNat zs) (e:=e) (vs:=madeCells z.cells (U.toNat*i.size))
       (w':=w.alloc (.cells (madeCells z.cells (U.toNat*i.size)) e)) K rfl rfl rfl rfl HO AW (by unfold maxLen;omega)
       (λ j x b=>by rw[CD] at b;split at b<;>cases b;exact Byb) (size_madeCells _ _) (λ j x p y b hp=>by
         rw[CD] at b;split at b
         . rename_i Dv;cases b;have h5:=Byc p y hp;have h6:=(Bn.1 hp).1;have h7:=M7 (j:=p) (sz:=i.size) (show j<U.toNat by omega) (Bk _) AQ;have h8:(j*i.size+p) % z.cells.size=p:=by rw[N,Nat.mul_comm,Nat.mul_add_mod];exact Nat.mod_eq_of_lt AQ
           have h9:(madeCells z.cells (U.toNat*i.size)).getD (j*i.size+p) undef=z.cells[(j*i.size+p) % z.cells.size]!:=by
             simp[madeCells,Bs,h7]
           rw[h9,h8];have XB:p<z.cells.size:=AQ;rw[Bu,Cx,BW XB] at h5;rw[getElem!_pos z.cells p XB];exact h5
         . cases b)
     rw[B1] at r;refine ⟨_,_,_,_,F,_,B,h2,λ _ h=>h,r,.inl ?_⟩;simp only[execOp,E,S,a5,Sem.run_bind,ET,Result.andThen_ok,Sem.run_pure]
 . exact h.elim
theorem Rel.Bnn(f:Rel c st a w F M){q:Nat}{e:AG}{d:D}{v:AJ}(o:get st.hp q=none)(m:DR F w M (sg st.hp) d v)(k:v.oneCell'=true):
   Rel c {st with hp:=(q,.Yo e 1 [[.sl []]] 0 0 d)::st.hp} a (w.alloc (.cells #[v] e)) F (I2 M q ⟨w.heap.size,1,[]⟩)/\
   DR F (w.alloc (.cells #[v] e)) (I2 M q ⟨w.heap.size,1,[]⟩) (sg ((q,.Yo e 1 [[.sl []]] 0 0 d)::st.hp)) (.ref q 0 1 1) (.slice (some ⟨w.heap.size,0,none⟩) 1 1):=by
 have Dr:=Rw st.hp q (.Yo e 1 [[.sl []]] 0 0 d);have g:∀j,j≠q->I2 M q ⟨w.heap.size,1,[]⟩ j=M j:=λ j n=>by simp[I2,n]
 have Mo:I2 M q ⟨w.heap.size,1,[]⟩ q=⟨w.heap.size,1,[]⟩:=by simp[I2]
 have K9:=Je Dr g o;have p:sg ((q,.Yo e 1 [[.sl []]] 0 0 d)::st.hp) q=some (.arr 1 1):=by rw[Ee Dr];simp[AO.sg]
 have hold:∀b,b<w.heap.size->(w.alloc (.cells #[v] e)).heap[b]?=w.heap[b]?:=λ b hb=>alloc_old w _ b hb;refine ⟨f.change Dr g K9 rfl rfl rfl AT (λ b hb _=>hold b hb) ?_ (λ b hb=> .inr (by have:b=_:=hb;rw[this,Mo];exact Bk _)),?_⟩
 . rw[Mo];refine ⟨AQ,Bk _,by simp[maxLen],λ i x hx=>?_,⟨AT,AQ⟩,λ l=>Nat.lt_irrefl _ (f.keep.Fl _ l),#[v],.of0 (heap_alloc_new w _),rfl,λ i x j y hx r EG=>?_,?_,?_⟩
   . cases i with
     | zero=>simp only[BE,Bo] at hx;subst hx;rfl
     | succ i=>simp at hx
   . cases i with
     | zero=>
       simp only[BE,Bo] at hx;subst hx;cases j with
       | zero=>exact (EG ⟨rfl,rfl⟩).elim
       | succ j=>simp at r
     | succ i=>simp at hx
   . exact m.keep (λ b hb=>hold b (f.keep.Fl b hb)) (λ _ h=>h) K9
   . exact k
 . exact .ref q 0 1 1 1 1 _ p (Bk _) ⟨_,_,_,rfl⟩ (λ _=>⟨_,1,rfl,AQ,AQ,by rw[Mo],.inr (by rw[Mo])⟩)
theorem Akg{st:St}{e:Op}{t:AG}{d:D}(h:FM st e=some (t,d)):∃x parts b m N,e= .buildSlice t 1 parts/\parts=#[(0,x)]/\ev st x=d/\d= .ref b 0 m N:=by
 unfold FM at h;split at h
 . rename_i g parts;split at h
   . rename_i x _ f;split at h
     . rename_i b m N hx;simp only[Bo,Cs] at h;obtain ⟨rfl,rfl⟩:=h;exact ⟨x,parts,b,m,N,rfl,by rw[<-Array.toList_inj,f],hx,rfl⟩
     . cases h
   . cases h
 . cases h
theorem JA(g:Rel c st a w F M){o:Oper}{q:Nat}{k:D->Hp->Prop}(h:mOp P st q o.op k):Bpf P c st a w F o k:=by
 unfold mOp at h;split at h
 case h_2=>exact As7 g h
 rename_i t d Q;obtain ⟨x,parts,q3,m,N,R,rfl,hx,rfl⟩:=Akg Q;unfold Aup at h;split at h
 case h_2=>exact h.elim
 rename_i s1 Y e z1 T;split at h
 case h_2=>exact h.elim
 rename_i Z e2 j;obtain ⟨S,K⟩:=h;obtain ⟨i1,u1,W,Og,H3,QT,s⟩:=De T;simp only[TI.mk.injEq] at s;obtain rfl:=TK.of_slice s.2.2.1.symm;obtain ⟨i,u,z,E,hu,V,y⟩:=De j;simp only[TI.mk.injEq] at y;obtain ⟨H,e5,e6,I⟩:=y;have n:=Aat I.symm;subst n;have b:=Di g x;rw[hx] at b;have UJ:(a.eval x).oneCell'=true:=b.Mn rfl;obtain ⟨h2,B⟩:=g.Bnn (q:=q) (e:=e) S b UJ;obtain ⟨p,l,r,f⟩:∃p l r,a.eval x= .slice p l r:=by
   generalize a.eval x=v at b;cases b with
   | ref _ _ _ _ _ _ _ _ _ U=>exact U
 rw[f] at h2 B;refine ⟨_,_,_,_,F,_,K,h2,λ _ h=>h,B,.inl ?_⟩;simp[execOp,R,Instr.buildSlice,run_underlying H3,Result.andThen,Fb E,<-H,N5 E V,Value.cells,Instr.fill,f,newRow,show Array.range 1=#[0] from rfl,Nat.mod_one]
end
end Go.Am
end
