/- Texts of this proof, what it rests on, merged: part A. -/
import Derived.WalkKit
import Derived.WalkLawsBesides
import Derived.Laws.StructEq
import Derived.Laws.BytesString
import Derived.Laws.Cells
import Derived.Lib.SliceRun
import Derived.MapKept
section
set_option linter.unusedVariables false
set_option linter.unusedSimpArgs false
namespace Go.Am
open Go
theorem Al:type_of% @Option.some.injEq:=@Option.some.injEq
theorem An:type_of% @List.length_cons:=@List.length_cons
theorem Ao:type_of% @List.getElem?_eq_some_iff:=@List.getElem?_eq_some_iff
theorem Aq:type_of% @List.length_append:=@List.length_append
theorem Ar:type_of% @List.take_length:=@List.take_length
theorem As:type_of% @Bool.and_eq_true:=@Bool.and_eq_true
theorem At:type_of% @Array.getD_eq_getD_getElem?:=@Array.getD_eq_getD_getElem?
theorem Au:type_of% @decide_eq_true_eq:=@decide_eq_true_eq
theorem Av:type_of% @List.getD_eq_getElem?_getD:=@List.getD_eq_getElem?_getD
theorem Aw:type_of% @List.mem_append:=@List.mem_append
theorem Ax:type_of% @List.length_nil:=@List.length_nil
theorem Ay:type_of% @List.mem_singleton:=@List.mem_singleton
theorem Az:type_of% @List.getElem?_eq_getElem:=@List.getElem?_eq_getElem
theorem AA:type_of% @List.take_of_length_le:=@List.take_of_length_le
theorem AB:type_of% @List.all_eq_true:=@List.all_eq_true
theorem AD:type_of% @List.mem_iff_getElem:=@List.mem_iff_getElem
theorem AE:type_of% @Nat.zero_le:=@Nat.zero_le
theorem AF:type_of% @Nat.lt_succ_iff_lt_or_eq:=@Nat.lt_succ_iff_lt_or_eq
theorem AG:type_of% @List.mem_cons:=@List.mem_cons
theorem AH:type_of% @List.map_cons:=@List.map_cons
theorem AI:type_of% @List.getElem?_take:=@List.getElem?_take
theorem AJ:type_of% @Bool.false_ne_true:=@Bool.false_ne_true
theorem AK:type_of% @List.getElem?_cons_zero:=@List.getElem?_cons_zero
theorem AL:type_of% @List.getElem?_append:=@List.getElem?_append
theorem AM:type_of% @Bool.false_eq_true:=@Bool.false_eq_true
theorem AN:type_of% @List.getElem_mem:=@List.getElem_mem
theorem AP:type_of% @if_true:=@if_true
theorem AQ:type_of% @List.mem_of_getElem?:=@List.mem_of_getElem?
theorem AR:type_of% @List.getElem?_drop:=@List.getElem?_drop
theorem AS:type_of% @List.getElem?_map:=@List.getElem?_map
theorem AT:type_of% @List.drop_eq_getElem_cons:=@List.drop_eq_getElem_cons
theorem AU:type_of% @List.mem_map:=@List.mem_map
theorem AV:type_of% @List.any_eq_true:=@List.any_eq_true
theorem AW:type_of% @List.getElem?_append_left:=@List.getElem?_append_left
theorem AX:type_of% @List.getD_cons_zero:=@List.getD_cons_zero
theorem AY:type_of% @List.eq_nil_of_length_eq_zero:=@List.eq_nil_of_length_eq_zero
theorem AZ:type_of% @List.drop_length:=@List.drop_length
theorem A0:type_of% @Nat.not_lt_zero:=@Nat.not_lt_zero
theorem A1:type_of% @List.getElem?_append_right:=@List.getElem?_append_right
theorem A2:type_of% @Nat.add_mul:=@Nat.add_mul
theorem A3:type_of% @Nat.add_sub_cancel_left:=@Nat.add_sub_cancel_left
theorem A4:type_of% @List.mem_iff_getElem?:=@List.mem_iff_getElem?
theorem A5:type_of% @Option.getD_some:=@Option.getD_some
theorem A6:type_of% @List.cons_append:=@List.cons_append
theorem A7:type_of% @Bool.true_and:=@Bool.true_and
theorem A8:type_of% @List.length_take:=@List.length_take
theorem A9:type_of% @List.append_assoc:=@List.append_assoc
theorem Ba:type_of% @List.length_map:=@List.length_map
theorem Bb:type_of% @if_false:=@if_false
theorem Bc:type_of% @Ne.symm:=@Ne.symm
theorem Bd:type_of% @Option.isSome_none:=@Option.isSome_none
theorem Be:type_of% @Array.getElem?_eq_some_iff:=@Array.getElem?_eq_some_iff
theorem Bf:type_of% @Nat.zero_add:=@Nat.zero_add
theorem Bg:type_of% @List.map_append:=@List.map_append
theorem Bh:type_of% @Nat.mul_le_mul_right:=@Nat.mul_le_mul_right
theorem Bi:type_of% @List.length_replicate:=@List.length_replicate
theorem Bj:type_of% @Array.getElem?_toList:=@Array.getElem?_toList
theorem Bk:type_of% @Option.map_some:=@Option.map_some
theorem Bl:type_of% @List.nil_append:=@List.nil_append
theorem Bm:type_of% @Bool.eq_iff_iff:=@Bool.eq_iff_iff
theorem Bn:type_of% @decide_eq_false_iff_not:=@decide_eq_false_iff_not
theorem Bo:type_of% @List.getElem?_replicate:=@List.getElem?_replicate
theorem Bp:type_of% @Nat.le_trans:=@Nat.le_trans
theorem Br:type_of% @List.map_set:=@List.map_set
theorem Bs:type_of% @List.foldl_cons:=@List.foldl_cons
theorem Bt:type_of% @Option.isSome_iff_exists:=@Option.isSome_iff_exists
theorem Bu:type_of% @Nat.add_zero:=@Nat.add_zero
theorem Bv:type_of% @List.mem_of_mem_take:=@List.mem_of_mem_take
theorem Bw:type_of% @List.findSome?_eq_none_iff:=@List.findSome?_eq_none_iff
theorem Bx:type_of% @Int.le_refl:=@Int.le_refl
theorem Bz:type_of% @List.length_set:=@List.length_set
theorem BA:type_of% @List.getElem?_set_self:=@List.getElem?_set_self
theorem BB:type_of% @List.drop_of_length_le:=@List.drop_of_length_le
theorem BC:type_of% @List.length_singleton:=@List.length_singleton
theorem BD:type_of% @List.nodup_cons:=@List.nodup_cons
theorem BE:type_of% @List.map_nil:=@List.map_nil
theorem BG:type_of% @Bool.decide_and:=@Bool.decide_and
theorem BH:type_of% @List.pairwise_cons:=@List.pairwise_cons
theorem BJ:type_of% @Bool.true_eq_false:=@Bool.true_eq_false
theorem BK:type_of% @List.pairwise_append:=@List.pairwise_append
theorem BL:type_of% @List.mem_append_left:=@List.mem_append_left
theorem BM:type_of% @List.length_drop:=@List.length_drop
theorem BN:type_of% @List.map_take:=@List.map_take
theorem BO:type_of% @Option.map_eq_some_iff:=@Option.map_eq_some_iff
theorem BP:type_of% @List.take_add_one:=@List.take_add_one
theorem BQ:type_of% @List.nodup_append:=@List.nodup_append
theorem BR:type_of% @List.getElem?_set:=@List.getElem?_set
theorem BS:type_of% @decide_true:=@decide_true
theorem BT:type_of% @Nat.eq_zero_or_pos:=@Nat.eq_zero_or_pos
theorem BU:type_of% @List.mem_flatMap:=@List.mem_flatMap
theorem BV:type_of% @Prod.mk.injEq:=@Prod.mk.injEq
theorem Aa{α β:Type _}(a:α)(f:α->Option β):Option.bind (some a) f=f a:=rfl
theorem Ab(n:Nat):(n:Int).toNat=n:=Int.toNat_natCast n
theorem Ac{α:Type _}{a b:α}(h:some a=some b):a=b:=Option.some.inj h
theorem Ad{p:Prop}[inst:Decidable p](h:decide p=true):p:=of_decide_eq_true h
theorem Ae{p:Prop}[inst:Decidable p](h:decide p=false):¬p:=of_decide_eq_false h
theorem Ag{p:Prop}[inst:Decidable p](h:p):decide p=true:=decide_eq_true h
theorem Ah{p:Prop}[inst:Decidable p](h:¬p):decide p=false:=decide_eq_false h
theorem Ai(n:Nat):n<=n:=Nat.le_refl n
theorem Aj{α:Type _}(a b:α):cond false a b=b:=rfl
theorem Ak{α:Type _}(a b:α):cond true a b=a:=rfl
inductive Pd where
 | int (k:IntKind) (n:Int)
 | bool (b:Bool)
 | str (l:List UInt8)
 | sl (es:List (List Pd))
inductive D where
 | p (x:Pd)
 | agg (cs:List D)
 | Dv (cs:List D)
 | cl (es:List (List Pd))
 | cz (es:List (List Pd))
 | ref (id off len N:Nat)
 | ptr (id off:Nat)
 | pe (cs:List Pd)
 | ea (id i c N:Nat)
 | fn (f:FuncId) (cap:List D)
 | np
 | mv (id:Nat)
 | DI (id n:Nat)
 | M9 (id i n:Nat)
 | nr (id i len k:Nat)
 | SW
 | bad
def Pd.val:Pd->Value
 | .int k n=> .int k n
 | .bool b=> .bool b
 | .str l=> .string ⟨l.toArray⟩
 | .sl _=>undef
def Pd.flat:Pd->Bool
 | .sl _=>false
 | _=>true
structure Mb where
 DQ:Nat
 cap:Nat
 xs:List (Nat×Nat):=[]
inductive Sg where
 | box
 | arr (sz n:Nat)
 | DF (sz n k:Nat)
structure Ass where
 sg:Sg
 holds:(Nat->Prop)->World->Mb->Prop
 Gz:Mb->Nat->Prop
 CW:∀{F F':Nat->Prop} {w w':World} {m:Mb},holds F w m->(∀b,F b->w'.heap[b]?=w.heap[b]?)->(∀b,F b->F' b)->(∀b,Gz m b->w'.heap[b]?=w.heap[b]?/\¬F' b)->holds F' w' m
 JL:∀{F:Nat->Prop} {w:World} {m:Mb} {b:Nat},holds F w m->Gz m b->¬F b
 lt:∀{F:Nat->Prop} {w:World} {m:Mb} {b:Nat},holds F w m->Gz m b->b<w.heap.size
 Avq:∀{F:Nat->Prop} {w w':World} {m:Mb},holds F w m->(∀b row t fr,F b->w.heap[b]?=some (.cells row t fr)->∃fr',w'.heap[b]?=some (.cells row t fr'))->(∀b,¬F b->w'.heap[b]?=w.heap[b]?)->holds F w' m
inductive AO where
 | box (cs:List D) (t:TypeId:=0)
 | arr (t:TypeId) (sz:Nat) (es:List (List Pd))
 | Nw (sz:Nat) (es:List (List Pd))
 | iter (l:List UInt8) (pos:Nat)
 | Gi (g:Nat) (cs:List Pd)
 | Fv (s:Ass)
 | mp (l:List (Pd×Pd))
 | DF (t e:TypeId) (sz k:Nat) (rows:List (List (List Pd))) (hole:Option Nat)
def base:Nat:=1000000
abbrev Hp:=List (Nat×AO)
def get{α:Type}:List (Nat×α)->Nat->Option α
 | [],_=>none
 | (k',x)::r,k=>if k'=k then some x else get r k
def AO.sg:AO->Sg
 | .box _ _=> .box
 | .arr _ sz es=> .arr sz es.length
 | .Nw sz es=> .arr sz es.length
 | .iter _ _=> .box
 | .Gi _ _=> .box
 | .Fv s=>s.sg
 | .mp _=> .box
 | .DF _ _ sz k rows _=> .DF sz rows.length k
def sg(h:Hp)(id:Nat):Option Sg:=(get h id).map AO.sg
inductive PR (F:Nat->Prop) (w:World):Pd->Value->Prop
 | int (k:IntKind) (n:Int):PR F w (.int k n) (.int k n)
 | bool (b:Bool):PR F w (.bool b) (.bool b)
 | str (l:List UInt8):PR F w (.str l) (.string ⟨l.toArray⟩)
 | Zq (a:Option Addr) (cap:Nat):PR F w (.sl []) (.slice a 0 cap)
 | sl (es:List (List Pd)) (b off cap sz:Nat) (row:Array Value) (t:TypeId) (fr:Nat×Nat)
     (hF:F b) (hh:w.heap[b]?=some (.cells row t fr)) (hc:es.length<=cap)
     (hs:∀(i:Nat) e,es[i]?=some e->e.length=sz)
     (hi:∀(i:Nat) e (j:Nat) c,es[i]?=some e->e[j]?=some c->off+i*sz+j<row.size)
     (hp:∀(i:Nat) e (j:Nat) c,es[i]?=some e->e[j]?=some c->PR F w c (row.getD (off+i*sz+j) undef)):
     PR F w (.sl es) (.slice (some ⟨b,off,none⟩) es.length cap)
theorem PR.flat{F:Nat->Prop}{w:World}{x:Pd}(h:x.flat=true):PR F w x x.val:=by
 cases x with
 | int k n=>exact .int k n
 | bool b=>exact .bool b
 | str l=>exact .str l
 | sl _=>cases h
theorem PR.CW{F F':Nat->Prop}{w w':World}{x:Pd}{v:Value}(h:PR F w x v)(hw:∀b,F b->w'.heap[b]?=w.heap[b]?)(hF:∀b,F b->F' b):
   PR F' w' x v:=by
 induction h with
 | int k n=>exact .int k n
 | bool b=>exact .bool b
 | str l=>exact .str l
 | Zq a cap=>exact .Zq a cap
 | sl es b off cap sz row t fr hb hh hc hs hi hp ih=>
   exact .sl es b off cap sz row t fr (hF b hb) (by rw[hw b hb];exact hh) hc hs hi (λ i e j c h1 h2=>ih i e j c h1 h2)
theorem PR.Jc{F:Nat->Prop}{w:World}{x:Pd}{v:Value}(h:PR F w x v):v.oneCell'=true:=by
 cases h<;>rfl
def Sk(m:Mb)(sz n off len:Nat)(v:Value):Prop:=
 ∃a cap,v= .slice a len cap/\off+len<=n/\len<=cap/\off+cap=m.cap/\(cap=0∨a=some ⟨m.DQ,off*sz,none⟩)
inductive DR (F:Nat->Prop) (w:World) (M:Nat->Mb) (s:Nat->Option Sg):D->Value->Prop
 | p {x:Pd} {v:Value} (h:PR F w x v):DR F w M s (.p x) v
 | agg (cs:List D) (vs:Array Value) (hl:vs.size=cs.length) (h:∀(i:Nat) c,cs[i]?=some c->DR F w M s c (vs.getD i undef)):DR F w M s (.agg cs) (.agg vs)
 | Dv (cs:List D) (vs:Array Value) (hl:vs.size=cs.length) (h:∀(i:Nat) c,cs[i]?=some c->DR F w M s c (vs.getD i undef)):DR F w M s (.Dv cs) (.tuple vs)
 | cl (es:List (List Pd)) (a:Option Addr) (h:PR F w (.sl es) (.slice a es.length es.length)) (hn:es=[]->a=none):DR F w M s (.cl es) (.slice a es.length es.length)
 | cz (es:List (List Pd)) (a:Option Addr) (h:PR F w (.sl es) (.slice a es.length es.length)):DR F w M s (.cz es) (.slice a es.length es.length)
 | ref (id off len N sz n:Nat) (v:Value) (hs:s id=some (.arr sz n)) (hN:N<=n) (hv:∃a l c,v= .slice a l c) (h:N=n->Sk (M id) sz n off len v):DR F w M s (.ref id off len N) v
 | ptr (id off:Nat) (hs:s id=some .box):DR F w M s (.ptr id off) (.pointer (some ⟨(M id).DQ,off,none⟩))
 | pe (cs:List Pd) (b off:Nat) (row:Array Value) (t:TypeId) (fr:Nat×Nat) (hF:F b) (hh:w.heap[b]?=some (.cells row t fr))
     (hi:∀(j:Nat) c,cs[j]?=some c->off+j<row.size) (hp:∀(j:Nat) c,cs[j]?=some c->PR F w c (row.getD (off+j) undef)):
     DR F w M s (.pe cs) (.pointer (some ⟨b,off,none⟩))
 | ea (id i c N sz n:Nat) (v:Value) (hs:s id=some (.arr sz n)) (hN:N<=n) (hv:∃a,v= .pointer a) (h:N=n->v= .pointer (some ⟨(M id).DQ,i*sz+c,none⟩)/\i<n):
     DR F w M s (.ea id i c N) v
 | fn (f:FuncId) (cap:List D) (vs:Array Value) (hl:vs.size=cap.length) (h:∀(i:Nat) c,cap[i]?=some c->DR F w M s c (vs.getD i undef)):
     DR F w M s (.fn f cap) (.func (.func f) #[] vs)
 | np:DR F w M s .np (.pointer none)
 | mv (id:Nat) (hs:s id=some .box):DR F w M s (.mv id) (.map (some (M id).DQ))
 | DI (id n sz m k:Nat) (v:Value) (hs:s id=some (.DF sz m k)) (hN:n<=m) (hv:∃a c,v= .slice a n c/\(n=0∨∃b,a=some ⟨b,0,none⟩)) (h:n=m->Sk (M id) 1 m 0 n v):DR F w M s (.DI id n) v
 | M9 (id i n sz m k:Nat) (b:Nat) (hs:s id=some (.DF sz m k)) (hN:n<=m) (hi:i<n) (h:n=m->b=(M id).DQ/\(M id).cap≠0):DR F w M s (.M9 id i n) (.pointer (some ⟨b,i,none⟩))
 | nr (id i len q sz m k:Nat) (v:Value) (hs:s id=some (.DF sz m k)) (hN:q<=k) (hv:∃a c,v= .slice a len c) (h:q=k->∃bc,(M id).xs[i]?=some bc/\len<=bc.2/\∃a,v= .slice a len bc.2/\(bc.2=0∨a=some ⟨bc.1,0,none⟩)):DR F w M s (.nr id i len q) v
 | SW (v:Value) (h:v.oneCell'=true):DR F w M s .SW v
 | bad (v:Value):DR F w M s .bad v
def C1(M M':Nat->Mb)(s s':Nat->Option Sg):Prop:=
 (∀id,s id=some .box->s' id=some .box/\(M' id).DQ=(M id).DQ)/\
 (∀id sz n,s id=some (.arr sz n)->∃n',s' id=some (.arr sz n')/\n<=n'/\(n'=n->M' id=M id))/\
 (∀id sz n k,s id=some (.DF sz n k)->∃n' k',s' id=some (.DF sz n' k')/\n<=n'/\k<=k'/\(n'=n->(M' id).DQ=(M id).DQ/\(M' id).cap=(M id).cap)/\(k'=k->(M' id).xs=(M id).xs))
theorem C1.refl(M:Nat->Mb)(s:Nat->Option Sg):C1 M M s s:=
 ⟨λ _ h=>⟨h,rfl⟩,λ _ _ n h=>⟨n,h,Ai _,λ _=>rfl⟩,λ _ _ n k h=>⟨n,k,h,Ai _,Ai _,λ _=>⟨rfl,rfl⟩,λ _=>rfl⟩⟩
theorem C1.trans{M M' M'':Nat->Mb}{s s' s'':Nat->Option Sg}(h:C1 M M' s s')(h':C1 M' M'' s' s''):C1 M M'' s s'':=by
 refine ⟨λ id hi=>?_,λ id sz n hi=>?_,λ id sz n k hi=>?_⟩
 . obtain ⟨h1,h2⟩:=h.1 id hi;obtain ⟨h3,h4⟩:=h'.1 id h1;exact ⟨h3,h4.trans h2⟩
 . obtain ⟨n1,h1,h2,h3⟩:=h.2.1 id sz n hi;obtain ⟨n2,h4,h5,h6⟩:=h'.2.1 id sz n1 h1;refine ⟨n2,h4,Bp h2 h5,λ e=>?_⟩;have e1:n1=n:=by omega
   rw[h6 (by omega),h3 e1]
 . obtain ⟨n1,k1,h1,h2,Ij,h3,h3'⟩:=h.2.2 id sz n k hi;obtain ⟨n2,k2,h4,h5,h5',h6,h6'⟩:=h'.2.2 id sz n1 k1 h1;refine ⟨n2,k2,h4,Bp h2 h5,Bp Ij h5',λ e=>?_,λ e=>?_⟩
   . have e1:n1=n:=by omega
     exact ⟨(h6 (by omega)).1.trans (h3 e1).1,(h6 (by omega)).2.trans (h3 e1).2⟩
   . have e1:k1=k:=by omega
     rw[h6' (by omega),h3' e1]
theorem DR.CW{F F':Nat->Prop}{w w':World}{M M':Nat->Mb}{s s':Nat->Option Sg}{d:D}{v:Value}(h:DR F w M s d v)
   (hw:∀b,F b->w'.heap[b]?=w.heap[b]?) (hF:∀b,F b->F' b) (hs:C1 M M' s s'):DR F' w' M' s' d v:=by
 induction h with
 | p h=>exact .p (h.CW hw hF)
 | agg cs vs hl _ ih=>exact .agg cs vs hl ih
 | Dv cs vs hl _ ih=>exact .Dv cs vs hl ih
 | cl es a h hn=>exact .cl es a (h.CW hw hF) hn
 | cz es a h=>exact .cz es a (h.CW hw hF)
 | ref id off len N sz n v h1 hN hv h2=>
   obtain ⟨n',h3,h4,h5⟩:=hs.2.1 id sz n h1;refine .ref id off len N sz n' v h3 (Bp hN h4) hv λ e=>?_;have e2:n'=n:=by omega
   subst e2;rw[h5 rfl];exact h2 e
 | ptr id off h1=>
   obtain ⟨h2,h3⟩:=hs.1 id h1;rw[<-h3];exact .ptr id off h2
 | pe cs b off row t fr hb hh hi hp=>exact .pe cs b off row t fr (hF b hb) (by rw[hw b hb];exact hh) hi (λ j c h1=>(hp j c h1).CW hw hF)
 | ea id i c N sz n v h1 hN hv h2=>
   obtain ⟨n',h3,h4,h5⟩:=hs.2.1 id sz n h1;refine .ea id i c N sz n' v h3 (Bp hN h4) hv λ e=>?_;have e2:n'=n:=by omega
   subst e2;rw[h5 rfl];exact h2 e
 | fn f cap vs hl _ ih=>exact .fn f cap vs hl ih
 | np=>exact .np
 | mv id h1=>
   obtain ⟨h2,h3⟩:=hs.1 id h1;rw[<-h3];exact .mv id h2
 | DI id n sz m k v h1 hN hv h2=>
   obtain ⟨m',k',h3,h4,_,h5,_⟩:=hs.2.2 id sz m k h1;refine .DI id n sz m' k' v h3 (Bp hN h4) hv λ e=>?_;obtain ⟨h6,h7⟩:=h5 (by omega);obtain ⟨a,cap,g1,g2,g3,g4,g5⟩:=h2 (by omega);exact ⟨a,cap,g1,by omega,g3,by rw[h7];exact g4,by rw[h6];exact g5⟩
 | M9 id i n sz m k b h1 hN hi h2=>
   obtain ⟨m',k',h3,h4,_,h5,_⟩:=hs.2.2 id sz m k h1;refine .M9 id i n sz m' k' b h3 (Bp hN h4) hi λ e=>?_;obtain ⟨h6,h7⟩:=h5 (by omega);rw[h6,h7];exact h2 (by omega)
 | nr id i len q sz m k v h1 hN hv h2=>
   obtain ⟨m',k',h3,_,h4,_,h5⟩:=hs.2.2 id sz m k h1;refine .nr id i len q sz m' k' v h3 (Bp hN h4) hv λ e=>?_;rw[h5 (by omega)];exact h2 (by omega)
 | SW v h=>exact .SW v h
 | bad v=>exact .bad v
def SX(ty t:TypeId):TypeId:=if ty=0 then t else ty
def D.Z5:D->Bool
 | .np=>true
 | _=>false
def Exa(ty:TypeId)(cs:List D)(row:Array Value):Prop:=ty≠0->cs.any D.Z5=true->∀(j:Nat),cs[j]?=some (.cl [])->row.getD j undef= .slice none 0 0
theorem Exa.zero(cs:List D)(row:Array Value):Exa 0 cs row:=λ h=>(h rfl).elim
def Hm(fr:Nat×Nat)(n:Nat):Prop:=∀i,i<n->¬(fr.1<=i/\i<fr.2)
theorem Hm.zero(n:Nat):Hm (0,0) n:=λ _ _ h=>A0 _ h.2
def Q2(w:World)(b:Nat)(t:TypeId)(row:Array Value):Prop:=∃fr,w.heap[b]?=some (.cells row t fr)/\Hm fr row.size
theorem Q2.of0{w:World}{b:Nat}{t:TypeId}{row:Array Value}(h:w.heap[b]?=some (.cells row t (0,0))):Q2 w b t row:=⟨_,h,Hm.zero _⟩
theorem Q2.lt{w:World}{b:Nat}{t:TypeId}{row:Array Value}(h:Q2 w b t row):b<w.heap.size:=(Be.1 h.choose_spec.1).1
theorem Q2.CW{w w':World}{b:Nat}{t:TypeId}{row:Array Value}(h:Q2 w b t row)(e:w'.heap[b]?=w.heap[b]?):Q2 w' b t row:=by
 obtain ⟨fr,h1,h2⟩:=h;exact ⟨fr,by rw[e];exact h1,h2⟩
theorem Q2.set{w:World}{b:Nat}{t:TypeId}{row cs:Array Value}(h:Q2 w b t row)(e:cs.size=row.size):Q2 (w.setRow b cs) b t cs:=by
 obtain ⟨fr,h1,h2⟩:=h;exact ⟨fr,setRow_heap w b row cs t fr h1,by rw[e];exact h2⟩
theorem Ew(P:Program)(g o:Nat)(t:TypeId):∀(vs:List Value) (i:Nat) (cur:Array Value) (w:World),Q2 w g t cur->o+i+vs.length<=cur.size->(∀v∈vs,v.oneCell'=true)->
   (storeCells ⟨g,o,none⟩ vs i).run P w= .ok () (w.setRow g (cur.toList.take (o+i)++vs++cur.toList.drop (o+i+vs.length)).toArray)
 | [],i,cur,w,hg,_,_=>by
   obtain ⟨fr,hg,_⟩:=hg;simp only[storeCells,List.append_nil,Ax,Bu,List.take_append_drop,Array.toArray_toList];rw[setRow_self w g cur t fr hg];rfl
 | v::rest,i,cur,w,hg0,hl,h1=>by
   have hi:o+i<cur.size:=by simp at hl;omega
   have ih:=Ew P g o t rest (i+1) (cur.setIfInBounds (o+i) v) (w.setRow g (cur.setIfInBounds (o+i) v)) (hg0.set (by simp)) (by simp at hl ⊢;omega) (λ x hx=>h1 x (by simp[hx]));obtain ⟨fr,hg,hm⟩:=hg0;have Ary:(⟨g,o,none⟩:Addr).add i=⟨g,o+i,none⟩:=by unfold Addr.add;split<;>simp_all
   have OQ:w.cell? ⟨g,o+i,none⟩=some cur[o+i]:=by simp[World.cell?,hg,hi]
   have Bc2:w.frozen? ⟨g,o+i,none⟩=false:=by
     have:=hm (o+i) hi;simp[World.frozen?,hg];omega
   have Mm:(store ((⟨g,o,none⟩:Addr).add i) v).run P w= .ok () (w.setRow g (cur.setIfInBounds (o+i) v)):=by
     rw[Ary,run_store P w _ v _ (h1 v (by simp)),OQ];simp[Bc2,setCell_eq_setRow w g (o+i) cur t fr v hg]
   simp only[storeCells,Sem.run_bind,Mm,Result.andThen_ok,ih,setRow_setRow]
   congr 3
   have e:=list_seg_step cur.toList (o+i) v rest (by simp at hl ⊢;omega)
   simpa [Array.toList_setIfInBounds,Nat.add_assoc] using e
def Vu(F:Nat->Prop)(w:World)(m:Mb)(t:TypeId)(sz:Nat)(es:List (List Pd)):Prop:=
 0<sz/\es.length<=m.cap/\m.cap<=maxLen/\(∀(i:Nat) e,es[i]?=some e->e.length=sz)/\
     (m.cap≠0->¬F m.DQ/\∃row,Q2 w m.DQ t row/\row.size=m.cap*sz/\
       ∀(i:Nat) e (j:Nat) c,es[i]?=some e->e[j]?=some c->PR F w c (row.getD (i*sz+j) undef))
structure Ie(F:Nat->Prop)(w:World)(m:Mb)(t e:TypeId)(sz:Nat)(rows:List (List (List Pd)))(hole:Option Nat):Prop where
 pos:0<sz
 xl:m.xs.length=rows.length
 le:rows.length<=m.cap
 max:m.cap<=maxLen
 outer:m.cap≠0->¬F m.DQ/\∃row,w.heap[m.DQ]?=some (.cells row t (0,0))/\row.size=m.cap/\
   ∀(i:Nat) r bc,rows[i]?=some r->m.xs[i]?=some bc->hole≠some i->∃a,row.getD i undef= .slice a r.length bc.2/\(bc.2=0∨a=some ⟨bc.1,0,none⟩)
 rows:∀(i:Nat) r bc,rows[i]?=some r->m.xs[i]?=some bc->hole≠some i->Vu F w ⟨bc.1,bc.2,[]⟩ e sz r
 Afy:∀(i:Nat) bc,hole=some i->m.xs[i]?=some bc->bc.2=0
 dis:∀(i j:Nat) bi bj,m.xs[i]?=some bi->m.xs[j]?=some bj->i≠j->bi.2≠0->bj.2≠0->bi.1≠bj.1
 out:∀(i:Nat) bi,m.xs[i]?=some bi->bi.2≠0->m.cap≠0->bi.1≠m.DQ
def DU(m:Mb)(b:Nat):Prop:=(m.cap≠0/\b=m.DQ)∨∃(i:Nat) (bc:Nat×Nat),m.xs[i]?=some bc/\bc.2≠0/\b=bc.1
theorem Vu.CW{F F':Nat->Prop}{w w':World}{m:Mb}{t:TypeId}{sz:Nat}{es:List (List Pd)}(h:Vu F w m t sz es)
   (hw:∀b,F b->w'.heap[b]?=w.heap[b]?) (hF:∀b,F b->F' b) (CT:m.cap≠0->w'.heap[m.DQ]?=w.heap[m.DQ]?/\¬F' m.DQ):Vu F' w' m t sz es:=by
 obtain ⟨h1,h2,Ij,h3,h4⟩:=h;refine ⟨h1,h2,Ij,h3,λ hc=>?_⟩;obtain ⟨h5,row,h6,h7,h8⟩:=h4 hc;obtain ⟨h9,LX⟩:=CT hc;exact ⟨LX,row,h6.CW h9,h7,λ i e j c he hj=>(h8 i e j c he hj).CW hw hF⟩
theorem Ie.row{F:Nat->Prop}{w:World}{m:Mb}{t e:TypeId}{sz:Nat}{rows:List (List (List Pd))}{hole:Option Nat}(h:Ie F w m t e sz rows hole){i:Nat}{bc:Nat×Nat}(hx:m.xs[i]?=some bc)(hc:bc.2≠0):
   ∃r,rows[i]?=some r/\hole≠some i/\Vu F w ⟨bc.1,bc.2,[]⟩ e sz r:=by
 have Cv:i<rows.length:=by rw[<-h.xl];exact (Ao.1 hx).1
 have hh:hole≠some i:=λ e=>hc (h.Afy i bc e hx);exact ⟨rows[i],by simp[Cv],hh,h.rows i _ bc (by simp[Cv]) hx hh⟩
theorem Ie.CW{F F':Nat->Prop}{w w':World}{m:Mb}{t e:TypeId}{sz:Nat}{rows:List (List (List Pd))}{hole:Option Nat}(h:Ie F w m t e sz rows hole)
   (hw:∀b,F b->w'.heap[b]?=w.heap[b]?) (hF:∀b,F b->F' b) (CT:∀b,DU m b->w'.heap[b]?=w.heap[b]?/\¬F' b):Ie F' w' m t e sz rows hole:=by
 refine ⟨h.pos,h.xl,h.le,h.max,λ hc=>?_,λ i r bc h1 h2 h3=>(h.rows i r bc h1 h2 h3).CW hw hF λ hc=>CT _ (.inr ⟨i,bc,h2,hc,rfl⟩),h.Afy,h.dis,h.out⟩;obtain ⟨h1,row,h2,h3⟩:=h.outer hc;obtain ⟨h4,h5⟩:=CT _ (.inl ⟨hc,rfl⟩);exact ⟨h5,row,by rw[h4];exact h2,h3⟩
theorem Ie.JL{F:Nat->Prop}{w:World}{m:Mb}{t e:TypeId}{sz:Nat}{rows:List (List (List Pd))}{hole:Option Nat}(h:Ie F w m t e sz rows hole){b:Nat}(hb:DU m b):¬F b:=by
 rcases hb with ⟨hc,rfl⟩ | ⟨i,bc,hx,hc,rfl⟩
 . exact (h.outer hc).1
 . obtain ⟨r,_,_,h1⟩:=h.row hx hc;exact (h1.2.2.2.2 hc).1
theorem Ie.lt{F:Nat->Prop}{w:World}{m:Mb}{t e:TypeId}{sz:Nat}{rows:List (List (List Pd))}{hole:Option Nat}(h:Ie F w m t e sz rows hole){b:Nat}(hb:DU m b):b<w.heap.size:=by
 rcases hb with ⟨hc,rfl⟩ | ⟨i,bc,hx,hc,rfl⟩
 . obtain ⟨_,row,h2,_⟩:=h.outer hc;exact (Be.1 h2).1
 . obtain ⟨r,_,_,h1⟩:=h.row hx hc;obtain ⟨_,rw_,h2,_⟩:=h1.2.2.2.2 hc;exact h2.lt
def Wg(F:Nat->Prop)(w:World)(M:Nat->Mb)(s:Nat->Option Sg)(m:Mb):AO->Prop
 | .box cs ty=>¬F m.DQ/\∃row t,w.heap[m.DQ]?=some (.cells row (SX ty t) (0,0))/\row.size=cs.length/\
     (∀(j:Nat) d,cs[j]?=some d->DR F w M s d (row.getD j undef)/\(row.getD j undef).oneCell'=true)/\Exa ty cs row
 | .arr t sz es=>0<sz/\es.length<=m.cap/\m.cap<=maxLen/\(∀(i:Nat) e,es[i]?=some e->e.length=sz)/\
     (m.cap≠0->¬F m.DQ/\∃row,Q2 w m.DQ t row/\row.size=m.cap*sz/\
       ∀(i:Nat) e (j:Nat) c,es[i]?=some e->e[j]?=some c->PR F w c (row.getD (i*sz+j) undef))
 | .Nw sz es=>0<sz/\es.length<=m.cap/\(∀(i:Nat) e,es[i]?=some e->e.length=sz)/\
     (m.cap≠0->F m.DQ/\∃row t fr,w.heap[m.DQ]?=some (.cells row t fr)/\row.size=m.cap*sz/\
       ∀(i:Nat) e (j:Nat) c,es[i]?=some e->e[j]?=some c->PR F w c (row.getD (i*sz+j) undef))
 | .iter l pos=>¬F m.DQ/\w.heap[m.DQ]?=some (.stringIter ⟨l.toArray⟩ pos)
 | .Gi g cs=>F g/\∃row t fr,w.heap[g]?=some (.cells row t fr)/\row.size=cs.length/\∀(j:Nat) c,cs[j]?=some c->PR F w c (row.getD j undef)
 | .Fv o=>o.holds F w m
 | .mp l=>¬F m.DQ/\(∃es clock,w.heap[m.DQ]?=some (.map es clock)/\es.toList.map (λ e=>(e.key,e.val))=l.map (λ p=>(p.1.val,p.2.val)))/\∀p∈l,p.2.flat=true
 | .DF t e sz _ rows hole=>Ie F w m t e sz rows hole
def AO.Gz(o:AO)(m:Mb)(b:Nat):Prop:=
 match o with
 | .box _ _=>b=m.DQ
 | .arr _ _ _=>m.cap≠0/\b=m.DQ
 | .Nw _ _=>False
 | .iter _ _=>b=m.DQ
 | .Gi _ _=>False
 | .Fv s=>s.Gz m b
 | .mp _=>b=m.DQ
 | .DF _ _ _ _ _ _=>DU m b
structure HR(F:Nat->Prop)(w:World)(M:Nat->Mb)(h:Hp):Prop where
 obj:∀id o,get h id=some o->Wg F w M (sg h) (M id) o
 inj:∀id o PW o' b,get h id=some o->get h PW=some o'->o.Gz (M id) b->o'.Gz (M PW) b->id=PW
def E8(M:Nat->Mb)(h:Hp)(b:Nat):Prop:=∃id o,get h id=some o/\o.Gz (M id) b
theorem HR.JL{F:Nat->Prop}{w:World}{M:Nat->Mb}{h:Hp}(hr:HR F w M h){b:Nat}(ho:E8 M h b):¬F b:=by
 obtain ⟨id,o,h1,h2⟩:=ho;have:=hr.obj id o h1;cases o with
 | box cs ty=>cases h2;exact this.1
 | arr t sz es=>obtain ⟨h2,rfl⟩:=h2;exact (this.2.2.2.2 h2).1
 | Nw sz es=>exact h2.elim
 | iter l pos=>cases h2;exact this.1
 | Gi g cs=>exact h2.elim
 | Fv s=>exact s.JL this h2
 | mp l=>cases h2;exact this.1
 | DF t e sz k rows hole=>exact Ie.JL this h2
theorem HR.lt{F:Nat->Prop}{w:World}{M:Nat->Mb}{h:Hp}(hr:HR F w M h){b:Nat}(ho:E8 M h b):b<w.heap.size:=by
 obtain ⟨id,o,h1,h2⟩:=ho;have:=hr.obj id o h1;cases o with
 | box cs ty=>cases h2;obtain ⟨_,row,t,h3,_⟩:=this;exact (Be.1 h3).1
 | arr t sz es=>obtain ⟨h2,rfl⟩:=h2;obtain ⟨_,row,h3,_⟩:=this.2.2.2.2 h2;exact h3.lt
 | Nw sz es=>exact h2.elim
 | iter l pos=>cases h2;exact (Be.1 this.2).1
 | Gi g cs=>exact h2.elim
 | Fv s=>exact s.lt this h2
 | mp l=>cases h2;obtain ⟨_,⟨_,_,h3,_⟩,_⟩:=this;exact (Be.1 h3).1
 | DF t e sz k rows hole=>exact Ie.lt this h2
theorem Wg.CW{F F':Nat->Prop}{w w':World}{M M':Nat->Mb}{s s':Nat->Option Sg}{m:Mb}{o:AO}(h:Wg F w M s m o)
   (hw:∀b,F b->w'.heap[b]?=w.heap[b]?) (hF:∀b,F b->F' b) (hs:C1 M M' s s')
   (CT:∀b,o.Gz m b->w'.heap[b]?=w.heap[b]?/\¬F' b):Wg F' w' M' s' m o:=by
 cases o with
 | box cs ty=>
   obtain ⟨h1,row,t,h2,h3,h4⟩:=h;obtain ⟨h5,h6⟩:=CT _ rfl;exact ⟨h6,row,t,by rw[h5];exact h2,h3,λ j d hd=>⟨(h4.1 j d hd).1.CW hw hF hs,(h4.1 j d hd).2⟩,h4.2⟩
 | arr t sz es=>
   obtain ⟨h1,h2,Ij,h3,h4⟩:=h;refine ⟨h1,h2,Ij,h3,λ hc=>?_⟩;obtain ⟨h5,row,h6,h7,h8⟩:=h4 hc;obtain ⟨h9,LX⟩:=CT _ ⟨hc,rfl⟩;exact ⟨LX,row,h6.CW h9,h7,λ i e j c he hj=>(h8 i e j c he hj).CW hw hF⟩
 | Nw sz es=>
   obtain ⟨h1,h2,h3,h4⟩:=h;refine ⟨h1,h2,h3,λ hc=>?_⟩;obtain ⟨h5,row,t,fr,h6,h7,h8⟩:=h4 hc;exact ⟨hF _ h5,row,t,fr,by rw[hw _ h5];exact h6,h7,λ i e j c he hj=>(h8 i e j c he hj).CW hw hF⟩
 | iter l pos=>
   obtain ⟨h5,h6⟩:=CT _ rfl;exact ⟨h6,by rw[h5];exact h.2⟩
 | Gi g cs=>
   obtain ⟨h1,row,t,fr,h2,h4,h3⟩:=h;exact ⟨hF _ h1,row,t,fr,by rw[hw _ h1];exact h2,h4,λ j c hc=>(h3 j c hc).CW hw hF⟩
 | Fv o=>exact o.CW h hw hF CT
 | mp l=>
   obtain ⟨h5,h6⟩:=CT _ rfl;obtain ⟨_,⟨es,clock,h2,h3⟩,h4⟩:=h;exact ⟨h6,⟨es,clock,by rw[h5];exact h2,h3⟩,h4⟩
 | DF t e sz k rows hole=>exact Ie.CW h hw hF CT
theorem HR.CW{F:Nat->Prop}{w w':World}{M:Nat->Mb}{h:Hp}(hr:HR F w M h)(hw:∀b,F b->w'.heap[b]?=w.heap[b]?)
   (CT:∀b,E8 M h b->w'.heap[b]?=w.heap[b]?):HR F w' M h:=
 ⟨λ id o ho=>(hr.obj id o ho).CW hw (λ _ h=>h) (C1.refl _ _) (λ b h2=>⟨CT b ⟨id,o,ho,h2⟩,hr.JL ⟨id,o,ho,h2⟩⟩),hr.inj⟩
def I7(g:Sg):Ass where
 sg:=g
 holds:=λ _ _ _=>True
 Gz:=λ _ _=>False
 CW:=λ _ _ _ _=>trivial
 JL:=λ _ h=>h.elim
 lt:=λ _ h=>h.elim
 Avq:=λ _ _ _=>trivial
end Go.Am
namespace Go.Am
open Go
def XD(b:Bool)(x y:Prop):Prop:=(b=true->x)/\(b=false->y)
@[simp] theorem WIf_true(x y:Prop):XD true x y=x:=by simp[XD]
@[simp] theorem WIf_false(x y:Prop):XD false x y=y:=by simp[XD]
structure St where
 env:List (Nat×D)
 hp:Hp
 n:Nat
def St.put(st:St)(t:Option Nat)(d:D):St:=
 match t with
 | some t=>if t<st.n then {st with env:=(t,d)::st.env} else st
 | none=>st
def Cz{α:Type}:List (Nat×α)->Nat->α->List (Nat×α)
 | [],k,x=>[(k,x)]
 | (k',x')::r,k,x=>if k'=k then (k,x)::r else (k',x')::Cz r k x
mutual
def Jd:Value->D
  | .int k n=> .p (.int k n)
  | .bool b=> .p (.bool b)
  | .string s=> .p (.str s.data.toList)
  | .slice none 0 0=> .cl []
  | .pointer none=> .np
  | .agg cs=> .agg (Ou cs.toList)
  | .tuple cs=> .Dv (Ou cs.toList)
  | _=> .bad
def Ou:List Value->List D
  | []=>[]
  | v::r=>Jd v::Ou r
end
def ev(st:St):Operand->D
 | .tmp t=>(get st.env t).getD .bad
 | .const v=>Jd v
 | .func f=> .fn f []
 | .global _=> .bad
inductive TK where
 | int (k:IntKind) | bool | string | slice (e:TypeId) | ptr (e:TypeId) | struct (fs:List (Nat×TypeId)) | array (n:Nat) (e:TypeId) | other
structure TI where
 size:Nat
 bytes:Nat
 k:TK
 zero:D
def TK.of:TypeDesc->TK
 | .int k=> .int k
 | .bool=> .bool
 | .string=> .string
 | .slice e=> .slice e
 | .pointer e=> .ptr e
 | .struct fs=> .struct (fs.toList.map λ f=>(f.offset,f.type))
 | .array n e=> .array n e
 | _=> .other
def TK.isAgg:TK->Bool
 | .struct _ | .array _ _=>true
 | _=>false
def CJ(P:Program)(t:TypeId):Option TI:=
 match P.info? t,P.underlying t with
 | some i,some u=>match i.zero with
   | some z=>some ⟨i.size,i.bytes,TK.of u,Jd z⟩
   | none=>none
 | _,_=>none
def D.one:D->Bool
 | .agg _ | .Dv _ | .bad=>false
 | _=>true
def D.cells:D->List D
 | .agg cs=>cs
 | d=>[d]
def D.stored(d:D):Option (List D):=if d.cells.all D.one then some d.cells else none
def T1(ti:TI)(cs:List D)(off:Nat)(k:D->Prop):Prop:=
 if ti.k.isAgg then off+ti.size<=cs.length/\k (.agg ((cs.drop off).take ti.size))
 else match cs[off]? with
   | some d=>k d
   | none=>False
def Sn(ti:TI)(cs:List Pd)(off:Nat)(k:D->Prop):Prop:=
 if ti.k.isAgg then off+ti.size<=cs.length/\k (.agg (((cs.drop off).take ti.size).map D.p))
 else match cs[off]? with
   | some d=>k (.p d)
   | none=>False
def WO(P:Program)(h:Hp)(t:TypeId)(d:D)(k:D->Prop):Prop:=
 match CJ P t,d with
 | some ti,.ptr id off=>match get h id with
   | some (.box cs _)=>T1 ti cs off k
   | _=>False
 | some ti,.pe cs=>Sn ti cs 0 k
 | some ti,.ea id i c N=>match get h id with
   | some (.arr _ _ es)=>N=es.length/\Sn ti (es.getD i []) c k
   | some (.Nw _ es)=>N=es.length/\Sn ti (es.getD i []) c k
   | _=>False
 | some ti,.M9 id i n=>match get h id with
   | some (.DF _ _ _ kk rows hole)=>(n=rows.length/\hole≠some i/\ti.k.isAgg=false)/\k (.nr id i (rows.getD i []).length kk)
   | _=>False
 | _,_=>False
def Asj(op:BinOp)(x y:D)(k:D->Prop):Prop:=
 match op,x,y with
 | .add,.p (.int k1 a),.p (.int k2 b)=>k1=k2/\k (.p (.int k1 (k1.wrap (a+b))))
 | .sub,.p (.int k1 a),.p (.int k2 b)=>k1=k2/\k (.p (.int k1 (k1.wrap (a - b))))
 | .mul,.p (.int k1 a),.p (.int k2 b)=>k1=k2/\k (.p (.int k1 (k1.wrap (a*b))))
 | .quo,.p (.int k1 a),.p (.int k2 b)=>k1=k2/\b≠0/\k (.p (.int k1 (k1.wrap (a.tdiv b))))
 | .rem,.p (.int k1 a),.p (.int k2 b)=>k1=k2/\b≠0/\k (.p (.int k1 (a.tmod b)))
 | .eql,.p (.int k1 a),.p (.int k2 b)=>k1=k2/\k (.p (.bool (decide (a=b))))
 | .neq,.p (.int k1 a),.p (.int k2 b)=>k1=k2/\k (.p (.bool (!decide (a=b))))
 | .lss,.p (.int k1 a),.p (.int k2 b)=>k1=k2/\k (.p (.bool (decide (a<b))))
 | .leq,.p (.int k1 a),.p (.int k2 b)=>k1=k2/\k (.p (.bool (decide (a<=b))))
 | .gtr,.p (.int k1 a),.p (.int k2 b)=>k1=k2/\k (.p (.bool (decide (b<a))))
 | .geq,.p (.int k1 a),.p (.int k2 b)=>k1=k2/\k (.p (.bool (decide (b<=a))))
 | .and,.p (.int k1 a),.p (.int k2 b)=>k1=k2/\k (.p (.int k1 (k1.wrap (BitVec.ofInt k1.bits a&&& BitVec.ofInt k1.bits b).toNat)))
 | .shr,.p (.int k1 a),.p (.int _ b)=>0<=b/\k (.p (.int k1 (a.fdiv (2 ^ (min b.toNat k1.bits)))))
 | .add,.p (.str a),.p (.str b)=>a.length+b.length<=maxLen/\k (.p (.str (a++b)))
 | .eql,.p (.str a),.p (.str b)=>k (.p (.bool (decide (a=b))))
 | .neq,.p (.str a),.p (.str b)=>k (.p (.bool (!decide (a=b))))
 | _,_,_=>False
inductive FK where
 | int | bool | str
def JR(P:Program):Nat->List Field->Option (List FK)
 | _,[]=>some []
 | i,f::r=>if f.name≠ "_" /\f.offset=i then
     match CJ P f.type,JR P (i+1) r with
     | some ⟨1,_,.int _,_⟩,some l=>some (.int::l)
     | some ⟨1,_,.bool,_⟩,some l=>some (.bool::l)
     | some ⟨1,_,.string,_⟩,some l=>some (.str::l)
     | _,_=>none
   else none
def Ado(P:Program)(e:TypeId):Option FK:=
 match CJ P e with
 | some ⟨1,_,.int _,_⟩=>some .int
 | some ⟨1,_,.bool,_⟩=>some .bool
 | some ⟨1,_,.string,_⟩=>some .str
 | _=>none
def Xa(P:Program)(t:TypeId):Option (List FK):=
 if P.eqGuardType P.depth t=false/\P.stoodInHeld t=false then
   match P.underlying t with
   | some (.struct fs)=>JR P 0 fs.toList
   | some (.array n e)=>(Ado P e).map (List.replicate n)
   | _=>none
 else none
def NJ:List FK->List D->List D->Option Bool
 | [],[],[]=>some true
 | .int::ks,.p (.int k a)::xs,.p (.int k' b)::ys=>if k=k' then (NJ ks xs ys).map (decide (a=b)&& ·) else none
 | .bool::ks,.p (.bool a)::xs,.p (.bool b)::ys=>(NJ ks xs ys).map ((a==b)&& ·)
 | .str::ks,.p (.str a)::xs,.p (.str b)::ys=>(NJ ks xs ys).map (decide (a=b)&& ·)
 | _,_,_=>none
def UW(P:Program)(t:TypeId)(xs ys:List D):Option Bool:=(Xa P t).bind λ ks=>NJ ks xs ys
def NO(P:Program)(op:BinOp)(t:TypeId)(x y:D)(k:D->Prop):Prop:=
 match op,x,y with
 | .eql,.p (.bool a),.p (.bool b)=>(match CJ P t with | some ⟨_,_,.bool,_⟩=>k (.p (.bool (a==b))) | _=>False)
 | .neq,.p (.bool a),.p (.bool b)=>(match CJ P t with | some ⟨_,_,.bool,_⟩=>k (.p (.bool (!(a==b)))) | _=>False)
 | .eql,.agg xs,.agg ys=>(match UW P t xs ys with | some b=>k (.p (.bool b)) | none=>False)
 | .neq,.agg xs,.agg ys=>(match UW P t xs ys with | some b=>k (.p (.bool (!b))) | none=>False)
 | .eql,.p (.sl es),.cl []=>(match CJ P t with | some ⟨_,_,.slice _,_⟩=>es≠[]/\k (.p (.bool false)) | _=>False)
 | .eql,.cl es,.cl []=>(match CJ P t with | some ⟨_,_,.slice _,_⟩=>k (.p (.bool es.isEmpty)) | _=>False)
 | op,x,y=>Asj op x y k
def unD(op:UnOp)(x:D)(k:D->Prop):Prop:=
 match op,x with
 | .not,.p (.bool b)=>k (.p (.bool (!b)))
 | .neg,.p (.int kd n)=>k (.p (.int kd (kd.wrap (0 - n))))
 | _,_=>False
def ZJ(c a b:D)(k:D->Prop):Prop:=
 match c,a,b with
 | .p (.bool t),.p (.bool x),.p (.bool y)=>k (.p (.bool (if t then x else y)))
 | .p (.bool t),a,b=>XD t (k a) (k b)
 | _,_,_=>False
def Ta:List (List Pd)->Option (List UInt8)
 | []=>some []
 | [.int .u8 n]::r=>(Ta r).map (UInt8.ofNat n.toNat:: ·)
 | _=>none
def z6(P:Program)(s d:TypeId)(x:D)(k:D->Prop):Prop:=
 match CJ P s,CJ P d,x with
 | some _,some ⟨_,_,.int kd,_⟩,.p (.int _ n)=>k (.p (.int kd (kd.wrap n)))
 | some _,some ⟨_,_,.string,_⟩,.p (.str l)=>k (.p (.str l))
 | some ⟨_,_,.slice e,_⟩,some ⟨_,_,.string,_⟩,.p (.sl es)=>match CJ P e,Ta es with
   | some ⟨_,_,.int .u8,_⟩,some l=>k (.p (.str l))
   | _,_=>False
 | _,_,_=>False
def JS(P:Program)(t:TypeId)(x:D)(f:Nat)(h:Hp)(k:D->Prop):Prop:=
 match CJ P t with
 | some ⟨_,_,.struct fs,_⟩=>match fs[f]? with
   | some (o,u)=>match CJ P u with
     | some ti=>ti.size≠0/\match x with
       | .ptr id off=>k (.ptr id (off+o))
       | .pe cs=>k (.pe (cs.drop o))
       | .ea id i c N=>(match sg h id with | some (.arr _ m)=>N=m | _=>False)/\k (.ea id i (c+o) N)
       | _=>False
     | none=>False
   | none=>False
 | _=>False
def UR(P:Program)(t:TypeId)(x:D)(f:Nat)(k:D->Prop):Prop:=
 match CJ P t with
 | some ⟨_,_,.struct fs,_⟩=>match fs[f]?,x with
   | some (o,u),.agg cs=>match CJ P u with
     | some ti=>T1 ti cs o k
     | none=>False
   | _,_=>False
 | _=>False
def JO(P:Program)(t:TypeId)(x i:D)(h:Hp)(k:D->Prop):Prop:=
 match CJ P t,i with
 | some ⟨_,_,.slice e,_⟩,.p (.int _ n)=>match CJ P e with
   | some ti=>match x with
     | .p (.sl es)=>(0<=n/\n<es.length)/\(es.getD n.toNat []).length=ti.size/\k (.pe (es.getD n.toNat []))
     | .cl es=>(0<=n/\n<es.length)/\(es.getD n.toNat []).length=ti.size/\k (.pe (es.getD n.toNat []))
     | .ref id off len N=>match sg h id with
       | some (.arr sz m)=>(0<=n/\n<len)/\sz=ti.size/\N=m/\k (.ea id (off+n.toNat) 0 N)
       | _=>False
     | .DI id N=>(0<=n/\n<N)/\ti.size=1/\k (.M9 id n.toNat N)
     | _=>False
   | none=>False
 | some ⟨_,_,.array m e,_⟩,.p (.int _ n)=>match CJ P e,x with
   | some ti,.ptr id off=>(0<=n/\n<m)/\k (.ptr id (off+n.toNat*ti.size))
   | some ti,.pe cs=>(0<=n/\n<m)/\k (.pe (cs.drop (n.toNat*ti.size)))
   | _,_=>False
 | _,_=>False
def Um(P:Program)(t:TypeId)(x i:D)(k:D->Prop):Prop:=
 match CJ P t,x,i with
 | some ⟨_,_,.string,_⟩,.p (.str l),.p (.int _ n)=>(0<=n/\n<l.length)/\k (.p (.int .u8 (l.getD n.toNat 0).toNat))
 | some ⟨_,_,.array m e,_⟩,.agg cs,.p (.int _ n)=>match CJ P e with
   | some ti=>(0<=n/\n<m)/\T1 ti cs (n.toNat*ti.size) k
   | none=>False
 | _,_,_=>False
def Fp(st:St)(o:Option Operand)(Yx:Int)(k:Int->Prop):Prop:=
 match o with
 | none=>k Yx
 | some x=>match ev st x with
   | .p (.int _ n)=>k n
   | _=>False
def TG(P:Program)(st:St)(t:TypeId)(x:D)(lo hi mx:Option Operand)(k:D->Prop):Prop:=
 match CJ P t,x with
 | some ⟨_,_,.string,_⟩,.p (.str l)=>mx.isNone=true/\Fp st lo 0 λ a=>Fp st hi l.length λ b=>(0<=a/\a<=b/\b<=l.length)/\k (.p (.str ((l.take b.toNat).drop a.toNat)))
 | some ⟨_,_,.slice e,_⟩,x=>match CJ P e with
   | some ti=>match x with
     | .p (.sl es)=>match mx with
       | none=>Fp st lo 0 λ a=>Fp st hi es.length λ b=>(0<=a/\a<=b/\b<=es.length)/\(∀(i:Nat) e,es[i]?=some e->e.length=ti.size)/\k (.p (.sl ((es.take b.toNat).drop a.toNat)))
       | some m=>Fp st lo 0 λ a=>Fp st hi es.length λ b=>Fp st (some m) 0 λ c=>(0<=a/\a<=b/\b=c/\c<=es.length)/\(∀(i:Nat) e,es[i]?=some e->e.length=ti.size)/\hi.isSome=true/\k (.cz ((es.take b.toNat).drop a.toNat))
     | .ref id off len N=>match sg st.hp id with
       | some (.arr sz m)=>mx.isNone=true/\sz=ti.size/\Fp st lo 0 λ a=>Fp st hi len λ b=>(0<=a/\a<=b/\b<=len)/\N=m/\k (.ref id (off+a.toNat) (b - a).toNat N)
       | _=>False
     | _=>False
   | none=>False
 | _,_=>False
def GZ(place:Nat->Option (Nat×Nat))(cells:List D):List (Nat×D)->Option (List D)
 | []=>some cells
 | (i,d)::rest=>match place i with
   | none=>none
   | some (off,size)=>if d.cells.length=size/\off+size<=cells.length/\d.cells.all D.one=true then GZ place (cells.take off++d.cells++cells.drop (off+size)) rest else none
def LJ(P:Program):List (Nat×TypeId)->Option (List (Nat×Nat))
 | []=>some []
 | (o,u)::r=>match CJ P u,LJ P r with
   | some ti,some l=>some ((o,ti.size)::l)
   | _,_=>none
def Vj(P:Program)(st:St)(t:TypeId)(parts:List (Nat×Operand))(k:D->Prop):Prop:=
 match CJ P t with
 | some ⟨_,_,.struct fs,z⟩=>
   match LJ P fs,z with
   | some pl,.agg zs=>match GZ (λ i=>pl[i]?) zs (parts.map λ q=>(q.1,ev st q.2)) with
     | some cs=>k (.agg cs)
     | none=>False
   | _,_=>False
 | some ⟨_,_,.array _ e,z⟩=>
   match CJ P e,z with
   | some ti,.agg zs=>match GZ (λ i=>some (i*ti.size,ti.size)) zs (parts.map λ q=>(q.1,ev st q.2)) with
     | some cs=>k (.agg cs)
     | none=>False
   | _,_=>False
 | _=>False
def Nx(x:D)(i:Nat)(k:D->Prop):Prop:=
 match x with
 | .Dv cs=>match cs[i]? with
   | some d=>k d
   | none=>False
 | _=>False
inductive KK where
 | int (k:IntKind) | str
def KK.fit:KK->Pd->Bool
 | .int k,.int k' _=>decide (k'=k)
 | .str,.str _=>true
 | _,_=>false
def pdV:Value->Option Pd
 | .int k n=>some (.int k n)
 | .bool b=>some (.bool b)
 | .string s=>some (.str s.data.toList)
 | _=>none
def mapOf(P:Program)(t:TypeId):Option (KK×Pd):=
 match P.underlying t with
 | some (.map k e)=>match P.underlying k,(P.info? e).bind (·.zero) with
   | some (.int q),some z=>(pdV z).map λ y=>(.int q,y)
   | some .string,some z=>(pdV z).map λ y=>(.str,y)
   | _,_=>none
 | _=>none
def Pd.same:Pd->Pd->Option Bool
 | .int k a,.int k' b=>if k=k' then some (a==b) else none
 | .str a,.str b=>some (a==b)
 | _,_=>none
def Mj(k:Pd):List (Pd×Pd)->Option (Option Pd)
 | []=>some none
 | (k',v)::r=>match Pd.same k k' with
   | some true=>some (some v)
   | some false=>Mj k r
   | none=>none
def RC(k:Pd)(l:List (Pd×Pd)):Prop:=(Mj k l).isSome=true
def Ub(k:Pd)(l:List (Pd×Pd)):Option Pd:=(Mj k l).getD none
def KZ(k v:Pd):List (Pd×Pd)->List (Pd×Pd)
 | []=>[(k,v)]
 | (k',v')::r=>if Pd.same k k'=some true then (k,v)::r else (k',v')::KZ k v r
def EV(z:Pd)(ok:Bool)(r:Option Pd):D:=if ok then .Dv [.p (r.getD z),.p (.bool r.isSome)] else .p (r.getD z)
def Ql(P:Program)(h:Hp)(t:TypeId)(x i:D)(ok:Bool)(k:D->Prop):Prop:=
 match mapOf P t,x,i with
 | some (kk,z),.mv id,.p key=>match get h id with
   | some (.mp l)=>(kk.fit key=true/\RC key l)/\k (EV z ok (Ub key l))
   | _=>False
 | _,_,_=>False
def Ud(P:Program)(h:Hp)(t:TypeId)(m i v:D)(k:Hp->Prop):Prop:=
 match mapOf P t,m,i,v with
 | some (kk,_),.mv id,.p key,.p x=>match get h id with
   | some (.mp l)=>(kk.fit key=true/\RC key l/\x.flat=true)/\k (Cz h id (.mp (KZ key x l)))
   | _=>False
 | _,_,_,_=>False
def vOp(P:Program)(st:St)(op:Op)(k:D->Prop):Prop:=
 match op with
 | .move x | .assign x=>k (ev st x)
 | .pick c a b=>ZJ (ev st c) (ev st a) (ev st b) k
 | .binOp op t x y _=>NO P op t (ev st x) (ev st y) k
 | .unOp op _ x=>unD op (ev st x) k
 | .nilCheck x=>match ev st x with
   | .ptr id off=>k (.ptr id off)
   | .pe cs=>k (.pe cs)
   | .ea id i c N=>(match sg st.hp id with | some (.arr _ m)=>N=m | _=>False)/\k (.ea id i c N)
   | _=>False
 | .convert s d x=>z6 P s d (ev st x) k
 | .build t parts=>Vj P st t parts.toList k
 | .load t a=>WO P st.hp t (ev st a) k
 | .slice t x lo hi mx=>TG P st t (ev st x) lo hi mx k
 | .fieldAddr t x f=>JS P t (ev st x) f st.hp k
 | .field t x f=>UR P t (ev st x) f k
 | .indexAddr t x i=>JO P t (ev st x) (ev st i) st.hp k
 | .index t x i=>Um P t (ev st x) (ev st i) k
 | .extract t i=>Nx (ev st t) i k
 | .lookup t x i ok=>Ql P st.hp t (ev st x) (ev st i) ok k
 | .makeFunc (.func f) first cap=>first.size=0/\k (.fn f (cap.toList.map (ev st)))
 | _=>False
def EH(l:List UInt8):List (List Pd):=l.map λ b=>[Pd.int .u8 b.toNat]
def froze(h:Hp)(id:Nat):Hp:=
 match get h id with
 | some (.arr _ sz es)=>Cz h id (.Nw sz es)
 | _=>h
def KW(h:Hp)(d:D)(k:Pd->Hp->Prop):Prop:=
 match d with
 | .p x=>k x h
 | .cl es=>k (.sl es) h
 | .cz es=>k (.sl es) h
 | .ref id off len N=>match get h id with
   | some (.arr _ _ es)=>N=es.length/\k (.sl ((es.drop off).take len)) (froze h id)
   | some (.Nw _ es)=>N=es.length/\k (.sl ((es.drop off).take len)) h
   | _=>False
 | .DI id n=>match get h id with
   | some (.DF _ _ sz kk rows none)=>n=rows.length/\k (.sl (rows.map λ r=>[.sl r])) (Cz h id (.Fv (I7 (.DF sz rows.length kk))))
   | _=>False
 | _=>False
def HP:Hp->List D->(List Pd->Hp->Prop)->Prop
 | h,[],k=>k [] h
 | h,d::r,k=>KW h d λ x h'=>HP h' r λ xs h''=>k (x::xs) h''
def LA(h:Hp)(d:D)(k:List (List Pd)->Prop):Prop:=
 match d with
 | .p (.sl ys)=>k ys
 | .p (.str l)=>k (EH l)
 | .cl ys=>k ys
 | .ref id off len N=>match get h id with
   | some (.arr _ _ es)=>N=es.length/\k ((es.drop off).take len)
   | some (.Nw _ es)=>N=es.length/\k ((es.drop off).take len)
   | _=>False
 | _=>False
def chunk{α:Type}(sz:Nat):Nat->List α->List (List α)
 | 0,_=>[]
 | n+1,l=>l.take sz::chunk sz n (l.drop sz)
def Aaa(P:Program)(h:Hp)(q:Nat)(t t2:TypeId)(s x:D)(k:D->Hp->Prop):Prop:=
 match CJ P t,CJ P t2 with
 | some ⟨_,_,.slice e,_⟩,some ti2=>(match ti2.k with | .slice _=>True | .string=>True | _=>False)/\match CJ P e with
   | some ti=>LA h x λ ys=>(∀y∈ys,y.length=ti.size)/\0<ti.size/\ti.zero.cells.length=ti.size/\match s with
     | .cl es=>get h q=none/\(es=[]∨ys≠[])/\(∀y∈es,y.length=ti.size)/\(es.length+ys.length)*ti.bytes<=140737488355328/\es.length+ys.length<=140737488355328/\
         k (.ref q 0 (es++ys).length (es++ys).length) ((q,.arr e ti.size (es++ys))::h)
     | .cz es=>get h q=none/\ys≠[]/\(∀y∈es,y.length=ti.size)/\(es.length+ys.length)*ti.bytes<=140737488355328/\es.length+ys.length<=140737488355328/\
         k (.ref q 0 (es++ys).length (es++ys).length) ((q,.arr e ti.size (es++ys))::h)
     | .ref id off len N=>match get h id with
       | some (.arr e' sz es)=>off=0/\N=es.length/\len=es.length/\e'=e/\sz=ti.size/\(es.length+ys.length)*ti.bytes<=140737488355328/\es.length+ys.length<=140737488355328/\
           k (.ref id 0 (es++ys).length (es++ys).length) (Cz h id (.arr e sz (es++ys)))
       | _=>False
     | .nr id i len kk=>match get h id with
       | some (.DF t3 e' sz k2 rows none)=>(e'=e/\sz=ti.size/\kk=k2/\len=(rows.getD i []).length/\i<rows.length/\get h q=none)/\(len+ys.length)*ti.bytes<=140737488355328/\len+ys.length<=140737488355328/\
           k (.ref q 0 (rows.getD i []++ys).length (rows.getD i []++ys).length) ((q,.arr e sz (rows.getD i []++ys))::Cz h id (.DF t3 e' sz (k2+1) rows (some i)))
       | _=>False
     | _=>False
   | none=>False
 | _,_=>False
def w9(P:Program)(h:Hp)(t:TypeId)(s x:D)(k:D->Hp->Prop):Prop:=
 match CJ P t with
 | some ⟨_,_,.slice e,_⟩=>match CJ P e with
   | some ti=>LA h x λ ys=>(∀y∈ys,y.length=ti.size)/\0<ti.size/\match s with
     | .ref id off len N=>match get h id with
       | some (.arr e' sz es)=>N=es.length/\off+len<=N/\sz=ti.size/\
           k (.p (.int .i64 ((min len ys.length:Nat):Int))) (Cz h id (.arr e' sz (es.take off++ys.take len++es.drop (off+min len ys.length))))
       | _=>False
     | _=>False
   | none=>False
 | _=>False
def Mk(ty:TypeId)(cs:List D):TypeId:=match ty with
 | 0=>0
 | t+1=>if cs.any D.Z5=true then 0 else t+1
def Aup(hole:Option Nat)(k:Nat):Nat:=match hole with
 | none=>k+2
 | some _=>k+1
def M6(h:Hp)(id i n:Nat)(v:D)(k:Hp->Prop):Prop:=
 match v with
 | .ref q off len N=>match get h q,get h id with
   | some (.arr e2 Sb es),some (.DF t e sz k2 rows hole)=>(off=0/\e2=e/\Sb=sz/\N=es.length/\len=N/\n=rows.length/\(hole=none∨hole=some i))/\
       k (Cz (Cz h id (.DF t e sz (Aup hole k2) (rows.set i es) none)) q (.Fv (I7 (.arr sz (es.length+1)))))
   | _,_=>False
 | _=>False
def TC(P:Program)(h:Hp)(t:TypeId)(a v:D)(k:Hp->Prop):Prop:=
 match CJ P t with
 | some ti=>match v.stored with
   | some cs=>cs.length=ti.size/\match a with
     | .ptr id off=>match get h id with
       | some (.box bs ty)=>off+cs.length<=bs.length/\k (Cz h id (.box (bs.take off++cs++bs.drop (off+cs.length)) (Mk ty (bs.take off++cs++bs.drop (off+cs.length)))))
       | _=>False
     | .ea id i c N=>HP h cs λ xs h'=>match get h' id with
       | some (.arr e sz es)=>N=es.length/\c+xs.length<=sz/\k (Cz h' id (.arr e sz (es.set i ((es.getD i []).take c++xs++(es.getD i []).drop (c+xs.length)))))
       | _=>False
     | .M9 id i n=>M6 h id i n v k
     | _=>False
   | none=>False
 | none=>False
def npT(t:TypeId)(cs:List D):TypeId:=if cs.any D.Z5=true then t else 0
def mOp(P:Program)(st:St)(q:Nat)(op:Op)(k:D->Hp->Prop):Prop:=
 match op with
 | .alloc t=>match CJ P t with
   | some ti=>match ti.zero.stored with
     | some cs=>get st.hp q=none/\k (.ptr q 0) ((q,.box cs (npT t cs))::st.hp)
     | none=>False
   | none=>False
 | .box _ x=>match (ev st x).stored with
   | some cs=>get st.hp q=none/\k (.ptr q 0) ((q,.box cs)::st.hp)
   | none=>False
 | .store t a x=>TC P st.hp t (ev st a) (ev st x) λ h=>k (.Dv []) h
 | .makeMap _ none=>get st.hp q=none/\k (.mv q) ((q,.mp [])::st.hp)
 | .mapUpdate t m i x=>Ud P st.hp t (ev st m) (ev st i) (ev st x) λ h=>k (.Dv []) h
 | .buildSlice t n parts=>match CJ P t with
   | some ⟨_,_,.slice e,_⟩=>match CJ P e with
     | some ti=>0<ti.size/\n*ti.size<=16777216/\match GZ (λ i=>some (i*ti.size,ti.size)) (List.replicate (n*ti.size) .bad) (parts.toList.map λ q=>(q.1,ev st q.2)) with
       | some cs=>HP st.hp cs λ xs h=>get h q=none/\k (.ref q 0 n n) ((q,.arr e ti.size (chunk ti.size n xs))::h)
       | none=>False
     | none=>False
   | _=>False
 | .makeSlice t l m=>match CJ P t,ev st l,ev st m with
   | some ⟨_,_,.slice e,_⟩,.p (.int _ l),.p (.int _ m)=>match CJ P e with
     | some ti=>0<ti.size/\get st.hp q=none/\(0<=l/\l<=m/\m*ti.bytes<=140737488355328/\m<=140737488355328)/\ti.zero.cells.length=ti.size/\
         HP [] ti.zero.cells λ zs _=>k (.ref q 0 l.toNat l.toNat) ((q,.arr e ti.size (List.replicate l.toNat zs))::st.hp)
     | none=>False
   | _,_,_=>False
 | _=>False
end Go.Am
namespace Go.Am
open Go
structure Ctx where
 w0:World
 F0:Nat->Prop
 O0:Nat->Prop
 M0:Nat->Mb
 s0:Nat->Option Sg
structure Aq1(c:Ctx)(w:World)(F:Nat->Prop)(M:Nat->Mb)(h:Hp):Prop where
 os:w.os=c.w0.os
 tape:w.tape=c.w0.tape
 output:w.output=c.w0.output
 size:c.w0.heap.size<=w.heap.size
 N2:∀b,b<c.w0.heap.size->¬c.O0 b->w.heap[b]?=c.w0.heap[b]?
 F0:∀b,c.F0 b->F b
 Fn:∀b,F b->c.F0 b∨c.O0 b∨c.w0.heap.size<=b
 Fl:∀b,F b->b<w.heap.size
 own:∀b,E8 M h b->c.O0 b∨c.w0.heap.size<=b
 XQ:C1 c.M0 M c.s0 (sg h)
 s0b:∀id,c.s0 id≠none->base<=id
structure Rel(c:Ctx)(st:St)(a:Act)(w:World)(F:Nat->Prop)(M:Nat->Mb):Prop where
 env:∀t d,get st.env t=some d->DR F w M (sg st.hp) d (a.tmps.getD t undef)
 size:a.tmps.size=st.n
 defers:a.defers=[]
 heap:HR F w M st.hp
 CW:Aq1 c w F M st.hp
theorem Cw{α:Type}(k':Nat)(x:α)(r:List (Nat×α))(k:Nat):get ((k',x)::r) k=if k'=k then some x else get r k:=rfl
mutual
theorem KX (F:Nat->Prop) (w:World) (M:Nat->Mb) (s:Nat->Option Sg):∀v:Value,DR F w M s (Jd v) v
  | .int k n=>by simp only[Jd];exact .p (.int k n)
  | .bool b=>by simp only[Jd];exact .p (.bool b)
  | .string s=>by simp only[Jd];have:=PR.str (F:=F) (w:=w) s.data.toList;simpa using DR.p this
  | .slice none 0 0=>by simp only[Jd];exact .cl [] none (.Zq none 0) (λ _=>rfl)
  | .agg cs=>by
    simp only[Jd];have h:=Ph F w M s cs.toList;refine .agg _ cs (by simpa using h.1.symm) λ i c hc=>?_;have:=h.2 i c hc
    simpa [Array.getD_eq_getD_getElem?,List.getD] using this
  | .tuple cs=>by
    simp only[Jd];have h:=Ph F w M s cs.toList;refine .Dv _ cs (by simpa using h.1.symm) λ i c hc=>?_;have:=h.2 i c hc
    simpa [Array.getD_eq_getD_getElem?,List.getD] using this
  | .float _ _=>by simp only[Jd];exact .bad _
  | .complex _ _ _=>by simp only[Jd];exact .bad _
  | .pointer none=>by simp only[Jd];exact .np
  | .pointer (some _)=>by simp only[Jd];exact .bad _
  | .slice (some _) _ _=>by simp only[Jd];exact .bad _
  | .slice none (_+1) _=>by simp only[Jd];exact .bad _
  | .slice none 0 (_+1)=>by simp only[Jd];exact .bad _
  | .map _=>by simp only[Jd];exact .bad _
  | .chan _=>by simp only[Jd];exact .bad _
  | .func _ _ _=>by simp only[Jd];exact .bad _
  | .nilFunc=>by simp only[Jd];exact .bad _
  | .iface _ _=>by simp only[Jd];exact .bad _
  | .nilIface=>by simp only[Jd];exact .bad _
theorem Ph (F:Nat->Prop) (w:World) (M:Nat->Mb) (s:Nat->Option Sg):∀vs:List Value,
    (Ou vs).length=vs.length/\∀(i:Nat) c,(Ou vs)[i]?=some c->DR F w M s c (vs.getD i undef)
  | []=>by simp[Ou]
  | v::r=>by
    have h0:=KX F w M s v;have h1:=Ph F w M s r;refine ⟨by simp[Ou,h1.1],λ i c hc=>?_⟩;cases i with
    | zero=>simp only[Ou,List.getElem?_cons_zero,Option.some.injEq] at hc;subst hc;simpa [List.getD] using h0
    | succ i=>simp only[Ou,List.getElem?_cons_succ] at hc;simpa [List.getD] using h1.2 i c hc
end
section
variable {P:Program} {c:Ctx} {st:St} {a:Act} {w:World} {F:Nat->Prop} {M:Nat->Mb}
theorem Co(hr:Rel c st a w F M)(x:Operand):DR F w M (sg st.hp) (ev st x) (a.eval x):=by
 cases x with
 | tmp t=>
   simp only[ev,Act.eval];cases h:get st.env t with
   | none=>exact .bad _
   | some d=>exact hr.env t d h
 | const v=>exact KX _ _ _ _ v
 | global g=>exact .bad _
 | func f=>exact .fn f [] #[] rfl (λ i c h=>by simp at h)
theorem Ch{t:TypeId}{ti:TI}(h:CJ P t=some ti):∃i u z,P.info? t=some i/\P.underlying t=some u/\i.zero=some z/\ti=⟨i.size,i.bytes,TK.of u,Jd z⟩:=by
 unfold CJ at h;cases h1:P.info? t with
 | none=>rw[h1] at h;cases h
 | some i=>
   cases h2:P.underlying t with
   | none=>rw[h1,h2] at h;cases h
   | some u=>
     cases h3:i.zero with
     | none=>rw[h1,h2] at h;simp only[h3] at h;cases h
     | some z=>rw[h1,h2] at h;simp only[h3] at h;cases h;exact ⟨i,u,z,rfl,rfl,h3,rfl⟩
theorem C4{u:TypeDesc}{e:TypeId}(h:TK.of u= .slice e):u= .slice e:=by cases u<;>simp_all [TK.of]
theorem Md{u:TypeDesc}{fs:List (Nat×TypeId)}(h:TK.of u= .struct fs):∃gs,u= .struct gs/\fs=gs.toList.map λ f=>(f.offset,f.type):=by
 cases u<;>simp_all [TK.of]
theorem ID{u:TypeDesc}{n:Nat}{e:TypeId}(h:TK.of u= .array n e):u= .array n e:=by cases u<;>simp_all [TK.of]
theorem D4{u:TypeDesc}(h:TK.of u= .string):u= .string:=by cases u<;>simp_all [TK.of]
theorem Jx{u:TypeDesc}{k:IntKind}(h:TK.of u= .int k):u= .int k:=by cases u<;>simp_all [TK.of]
theorem Dw{t:TypeId}{i:TypeInfo}(h:P.info? t=some i)(w:World):(sizeOf t).run P w= .ok i.size w:=by
 simp[sizeOf,typeInfo,h]
theorem TO{t:TypeId}{u:TypeDesc}(h:P.underlying t=some u)(w:World):(isAgg t).run P w= .ok (TK.of u).isAgg w:=by
 unfold isAgg;rw[Sem.run_bind,run_underlying h w];cases u<;>rfl
theorem HD{t:TypeId}{i:TypeInfo}{u:TypeDesc}(hi:P.info? t=some i)(hu:P.underlying t=some u){b off:Nat}{row:Array Value}{e:TypeId}{fr:Nat×Nat}
   (hb:w.heap[b]?=some (.cells row e fr)) (hag:(TK.of u).isAgg=true->off+i.size<=row.size∨i.size=0) (Ks:(TK.of u).isAgg=false->off<row.size):
   (loadVar t ⟨b,off,none⟩).run P w= .ok (if (TK.of u).isAgg then .agg ((row.toList.drop off).take i.size).toArray else row.getD off undef) w:=by
 unfold loadVar;rw[Sem.run_bind,TO hu w];simp only[Result.andThen_ok];cases hk:(TK.of u).isAgg with
 | false=>
   have:=Ks hk;have hc:w.cell? ⟨b,off,none⟩=some (row.getD off undef):=by
     rw[cell_of_row w b off row e fr hb,At];simp[this]
   simp[hc]
 | true=>
   have hl:=hag hk;have hlen:((row.toList.drop off).take i.size).length=i.size:=by simp;omega
   have hc:=run_loadCells_list (P:=P) w ⟨b,off,none⟩ ((row.toList.drop off).take i.size) (λ j v hv=>by
     rw[Addr.add_lit,cell_of_row w b (off+j) row e fr hb];rw[AI] at hv;split at hv
     . simpa using hv
     . cases hv)
   rw[hlen] at hc;simp[Dw hi w,hc]
theorem MZ{ti:TI}{cs:List D}{off:Nat}{k:D->Prop}(h:T1 ti cs off k){row:Array Value}{s:Nat->Option Sg}(Dq:row.size=cs.length)
   (hc:∀(j:Nat) d,cs[j]?=some d->DR F w M s d (row.getD j undef)):
   (ti.k.isAgg=true->off+ti.size<=row.size∨ti.size=0)/\(ti.k.isAgg=false->off<row.size)/\
   ∃d,k d/\DR F w M s d (if ti.k.isAgg then .agg ((row.toList.drop off).take ti.size).toArray else row.getD off undef):=by
 unfold T1 at h;cases hk:ti.k.isAgg with
 | true=>
   rw[hk] at h;simp only[AP] at h;refine ⟨λ _=> .inl (by rw[Dq];exact h.1),λ h=>by simp at h,_,h.2,?_⟩;simp only[AP];refine .agg _ _ (by simp[Dq]) λ i d hd=>?_;rw[AI] at hd;split at hd
   . rename_i Cv;rw[AR] at hd;have:=hc _ d hd;have Yl:off+i<cs.length:=(Ao.1 hd).1;have e:(((row.toList.drop off).take ti.size).toArray).getD i undef=row.getD (off+i) undef:=by
       rw[At,At];simp[AI,Cv]
     rw[e];exact this
   . cases hd
 | false=>
   rw[hk] at h;simp only[AM,Bb] at h ⊢;cases hd:cs[off]? with
   | none=>rw[hd] at h;exact h.elim
   | some d=>
     rw[hd] at h;exact ⟨λ h=>h.elim,λ _=>by rw[Dq];exact (Ao.1 hd).1,d,h,hc off d hd⟩
theorem Sl{ti:TI}{cs:List Pd}{off:Nat}{k:D->Prop}(h:Sn ti cs off k){row:Array Value}{s:Nat->Option Sg}(o:Nat)
   (hi:∀(j:Nat) c,cs[j]?=some c->o+j<row.size) (hc:∀(j:Nat) c,cs[j]?=some c->PR F w c (row.getD (o+j) undef)):
   (ti.k.isAgg=true->(o+off)+ti.size<=row.size∨ti.size=0)/\(ti.k.isAgg=false->o+off<row.size)/\
   ∃d,k d/\DR F w M s d (if ti.k.isAgg then .agg ((row.toList.drop (o+off)).take ti.size).toArray else row.getD (o+off) undef):=by
 unfold Sn at h;cases hk:ti.k.isAgg with
 | true=>
   rw[hk] at h;simp only[AP] at h;have FJ:(o+off)+ti.size<=row.size∨ti.size=0:=by
     rcases BT ti.size with h0 | h0
     . exact .inr h0
     . refine .inl ?_;have h1:=h.1;have Cv:off+ti.size - 1<cs.length:=by omega
       have:=hi (off+ti.size - 1) _ (Az Cv);omega
   refine ⟨λ _=>FJ,λ h=>by simp at h,_,h.2,?_⟩;simp only[AP];refine .agg _ _ (by rcases FJ with h2 | h2<;>simp<;>omega) λ i d hd=>?_;rw[AS] at hd;cases hx:((cs.drop off).take ti.size)[i]? with
   | none=>rw[hx] at hd;cases hd
   | some x=>
     rw[hx] at hd;cases hd;rw[AI] at hx;split at hx
     . rename_i Cv;rw[AR] at hx;have:=hc _ x hx;have e:(((row.toList.drop (o+off)).take ti.size).toArray).getD i undef=row.getD (o+(off+i)) undef:=by
         rw[At,At];simp[AI,Cv,Nat.add_assoc]
       rw[e];exact .p this
     . cases hx
 | false=>
   rw[hk] at h;simp only[AM,Bb] at h ⊢;cases hd:cs[off]? with
   | none=>rw[hd] at h;exact h.elim
   | some d=>
     rw[hd] at h;exact ⟨λ h=>h.elim,λ _=>hi off d hd,.p d,h,.p (hc off d hd)⟩
end
end Go.Am
namespace Go.Am
open Go
section
variable {P:Program} {c:Ctx} {st:St} {a:Act} {w:World} {F:Nat->Prop} {M:Nat->Mb}
theorem CY{h:Hp}{id:Nat}{o:AO}(hg:get h id=some o):sg h id=some o.sg:=by simp[sg,hg]
theorem Akb{h:Hp}{id:Nat}(hg:sg h id=some .box):∃o,get h id=some o/\o.sg= .box:=by
 unfold sg at hg;cases ho:get h id with
 | none=>rw[ho] at hg;cases hg
 | some o=>rw[ho] at hg;exact ⟨o,rfl,Ac hg⟩
theorem Aui{h:Hp}{id sz n:Nat}(hg:sg h id=some (.arr sz n)):(∃t es,get h id=some (.arr t sz es)/\es.length=n)∨(∃es,get h id=some (.Nw sz es)/\es.length=n)∨(∃s,get h id=some (.Fv s)/\s.sg= .arr sz n):=by
 unfold sg at hg;cases ho:get h id with
 | none=>rw[ho] at hg;cases hg
 | some o=>
   rw[ho] at hg;cases o<;>simp[AO.sg] at hg
   . obtain ⟨rfl,h2⟩:=hg;exact .inl ⟨_,_,rfl,h2⟩
   . obtain ⟨rfl,h2⟩:=hg;exact .inr (.inl ⟨_,rfl,h2⟩)
   . exact .inr (.inr ⟨_,rfl,hg⟩)
theorem HR.row(hr:HR F w M st.hp){id sz:Nat}{es:List (List Pd)}(hg:(∃t,get st.hp id=some (.arr t sz es))∨get st.hp id=some (.Nw sz es)):
   0<sz/\es.length<=(M id).cap/\(∀(i:Nat) e,es[i]?=some e->e.length=sz)/\((M id).cap≠0->∃row t fr,w.heap[(M id).DQ]?=some (.cells row t fr)/\row.size=(M id).cap*sz/\
       ∀(i:Nat) e (j:Nat) c,es[i]?=some e->e[j]?=some c->PR F w c (row.getD (i*sz+j) undef)):=by
 rcases hg with ⟨t,hg⟩ | hg
 . obtain ⟨h1,h2,_,h3,h4⟩:=hr.obj id _ hg;exact ⟨h1,h2,h3,λ hc=>by obtain ⟨_,row,⟨fr,h5,_⟩,h6⟩:=h4 hc;exact ⟨row,t,fr,h5,h6⟩⟩
 . obtain ⟨h1,h2,h3,h4⟩:=hr.obj id _ hg;exact ⟨h1,h2,h3,λ hc=>by obtain ⟨_,row,t,fr,h5⟩:=h4 hc;exact ⟨row,t,fr,h5⟩⟩
theorem II{i j n sz cap:Nat}(h1:i<n)(h2:n<=cap)(h3:j<sz):i*sz+j<cap*sz:=by
 have:(i+1)*sz<=cap*sz:=Bh _ (by omega);rw[A2] at this;omega
theorem Su(hr:HR F w M st.hp){t:TypeId}{d:D}{k:D->Prop}(h:WO P st.hp t d k){v:Value}(hv:DR F w M (sg st.hp) d v):
   ∃d' v',k d'/\DR F w M (sg st.hp) d' v'/\(Instr.loadAt t v).run P w= .ok v' w:=by
 unfold WO at h;cases ht:CJ P t with
 | none=>rw[ht] at h;simp at h
 | some ti=>
   rw[ht] at h;obtain ⟨i,u,z,hi,hu,hz,rfl⟩:=Ch ht;cases d with
   | ptr id off=>
     simp only at h;cases ho:get st.hp id with
     | none=>rw[ho] at h;exact h.elim
     | some o=>
       rw[ho] at h;cases o with
       | box cs ty=>
         cases hv with
         | ptr _ _ hs=>
           obtain ⟨h1,row,e,h2,h3,h4⟩:=hr.obj id _ ho;obtain ⟨hp1,KF,d',hk,hd⟩:=MZ (F:=F) (w:=w) (M:=M) h (s:=sg st.hp) h3 (λ j d hd=>(h4.1 j d hd).1);exact ⟨d',_,hk,hd,by simp[Instr.loadAt,Instr.sureAddr,HD hi hu h2 hp1 KF]⟩
       | arr _ _ _=>exact h.elim
       | Nw _ _=>exact h.elim
       | iter _ _=>exact h.elim
       | Gi _ _=>exact h.elim
       | Fv _=>exact h.elim
       | mp _=>exact h.elim
       | DF _ _ _ _ _ _=>exact h.elim
   | pe cs=>
     simp only at h;cases hv with
     | pe _ b off row e fr hF hh UB hp=>
       obtain ⟨hp1,KF,d',hk,hd⟩:=Sl (F:=F) (w:=w) (M:=M) h (s:=sg st.hp) off UB hp;exact ⟨d',_,hk,hd,by simp only[Instr.loadAt,Instr.sureAddr,Sem.run_bind,Sem.run_pure,Result.andThen_ok];exact HD hi hu hh hp1 KF⟩
   | ea id j q N=>
     simp only at h;have key:∀(sz:Nat) (es:List (List Pd)),((∃t,get st.hp id=some (.arr t sz es))∨get st.hp id=some (.Nw sz es))->sg st.hp id=some (.arr sz es.length)->N=es.length->
         Sn ⟨i.size,i.bytes,TK.of u,Jd z⟩ (es.getD j []) q k->∃d' v',k d'/\DR F w M (sg st.hp) d' v'/\(Instr.loadAt t v).run P w= .ok v' w:=by
       intro sz es hg G7 hN Axv;cases hv with
       | ea _ _ _ _ Sc n v hs hN' _ h2=>
         rw[G7] at hs;simp only[Al,Sg.arr.injEq] at hs;obtain ⟨rfl,rfl⟩:=hs;obtain ⟨rfl,Cv⟩:=h2 hN;obtain ⟨h1,h3,h4,h5⟩:=hr.row hg;obtain ⟨row,e,fr,h6,h7,h8⟩:=h5 (by omega);have hej:es[j]?=some (es.getD j []):=by simp[List.getD,Cv]
         have hlen:=h4 j _ hej;obtain ⟨hp1,KF,d',hk,hd⟩:=Sl (F:=F) (w:=w) (M:=M) Axv (s:=sg st.hp) (row:=row) (j*sz)
           (λ q c hc=>by rw[h7];exact II Cv h3 (by have:=(Ao.1 hc).1;omega)) (λ q c hc=>h8 j _ q c hej hc)
         exact ⟨d',_,hk,hd,by simp[Instr.loadAt,Instr.sureAddr,HD hi hu h6 hp1 KF]⟩
     cases ho:get st.hp id with
     | none=>rw[ho] at h;exact h.elim
     | some o=>
       rw[ho] at h;cases o with
       | box cs ty=>exact h.elim
       | arr t' sz es=>exact key sz es (.inl ⟨t',ho⟩) (CY ho) h.1 h.2
       | Nw sz es=>exact key sz es (.inr ho) (CY ho) h.1 h.2
       | iter _ _=>exact h.elim
       | Gi _ _=>exact h.elim
       | Fv _=>exact h.elim
       | mp _=>exact h.elim
       | DF _ _ _ _ _ _=>exact h.elim
   | M9 id j n=>
     simp only at h;cases ho:get st.hp id with
     | none=>rw[ho] at h;exact h.elim
     | some o=>
       rw[ho] at h;cases o with
       | DF t' e' sz kk rows hole=>
         obtain ⟨⟨h1,h2,h3⟩,hk⟩:=h;cases hv with
         | M9 _ _ _ Sb m k2 b hs hN Ea hl=>
           rw[CY ho] at hs;simp only[AO.sg,Al,Sg.DF.injEq] at hs;obtain ⟨rfl,rfl,rfl⟩:=hs;obtain ⟨rfl,hc⟩:=hl h1;have hn:Ie F w (M id) t' e' sz rows hole:=hr.obj id _ ho;obtain ⟨_,row,Dq,FJ,De⟩:=hn.outer hc;have hjr:rows[j]?=some (rows.getD j []):=by simp[List.getD,show j<rows.length by omega]
           have hjx:j<(M id).xs.length:=by rw[hn.xl];omega
           have hjb:(M id).xs[j]?=some ((M id).xs[j]):=Az hjx;obtain ⟨ad,h4,h5⟩:=De j _ _ hjr hjb h2;have hA:=hn.rows j _ _ hjr hjb h2;have Yl:j<row.size:=by have:=hn.le;omega
           have h3':(TK.of u).isAgg=false:=h3;refine ⟨_,row.getD j undef,hk,?_,by simp[Instr.loadAt,Instr.sureAddr,HD hi hu Dq (λ h=>by rw[h3'] at h;cases h) (λ _=>Yl),h3']⟩;rw[h4];exact .nr id j _ _ sz rows.length kk _ (by rw[CY ho];rfl) (Ai _) ⟨_,_,rfl⟩ (λ _=>⟨_,hjb,hA.2.1,ad,rfl,h5⟩)
       | _=>exact h.elim
   | _=>simp at h
theorem Tt{α:Type}[BEq α][LawfulBEq α][DecidableEq α](a b:α):(a==b)=decide (a=b):=by rw[Bm];simp
theorem Ash{α:Type}[BEq α][LawfulBEq α][DecidableEq α](a b:α):(a != b)=!decide (a=b):=by rw[Bm];simp
theorem HB(l:List UInt8):(⟨l.toArray⟩:ByteArray).size=l.length:=by simp[ByteArray.size]
theorem Aaq(a b:List UInt8):((⟨a.toArray⟩:ByteArray)++(⟨b.toArray⟩:ByteArray))=⟨(a++b).toArray⟩:=by
 apply ByteArray.ext;simp
theorem Acq{op:BinOp}{x y:D}{k:D->Prop}(h:Asj op x y k){s:Nat->Option Sg}{vx vy:Value}(hx:DR F w M s x vx)(hy:DR F w M s y vy)(t:TypeId)(ox oy:Operand):
   ∃d v,k d/\DR F w M s d v/\(do eqGuard op t ox oy vx vy;binOp op t vx vy:Sem Value).run P w= .ok v w:=by
 have Axa:∀{k1 k2:IntKind} {p q:Int},x= .p (.int k1 p)->y= .p (.int k2 q)->vx= .int k1 p/\vy= .int k2 q:=by
   rintro k1 k2 p q rfl rfl;cases hx with | p hx=>cases hx;cases hy with | p hy=>cases hy;exact ⟨rfl,rfl⟩
 have Baw:∀{p q:List UInt8},x= .p (.str p)->y= .p (.str q)->vx= .string ⟨p.toArray⟩/\vy= .string ⟨q.toArray⟩:=by
   rintro p q rfl rfl;cases hx with | p hx=>cases hx;cases hy with | p hy=>cases hy;exact ⟨rfl,rfl⟩
 unfold Asj at h;split at h;all_goals first
   | exact h.elim
   | (obtain ⟨rfl,h⟩:=h
      obtain ⟨rfl,rfl⟩:=Axa rfl rfl;first
        | (refine ⟨_,_,h,.p (.int _ _),?_⟩;first | (simp[eqGuard,binOp,Op.intArith];done) | (simp[eqGuard,binOp,Op.intBits];done))
        | exact ⟨_,_,h.2,.p (.int _ _),by simp[eqGuard,binOp,Op.intDiv,h.1]⟩
        | (refine ⟨_,_,h,.p (.bool _),?_⟩;first | (simp[eqGuard,binOp,Op.intCmp];done) | (simp[eqGuard,binOp,Op.intCmp,Tt,Ash];done)))
   | (obtain ⟨h0,h⟩:=h
      obtain ⟨rfl,rfl⟩:=Axa rfl rfl;exact ⟨_,_,h,.p (.int _ _),by simp[eqGuard,binOp,Op.shift,show ¬_<(0:Int) from Int.not_lt.2 h0]⟩)
   | (obtain ⟨rfl,rfl⟩:=Baw rfl rfl
      first
        | (refine ⟨_,_,h,.p (.bool _),?_⟩;simp[eqGuard,binOp,Op.stringOp,Tt];done)
        | (refine ⟨_,_,h.2,.p (.str _),?_⟩
           have h1:=h.1;simp only[maxLen] at h1;simp only[eqGuard,binOp,Op.stringOp,HB,Sem.run_bind];simp[Aaq,IntKind.max,IntKind.bits,IntKind.signed];omega))
theorem PO{u:TypeDesc}(h:TK.of u= .bool):u= .bool:=by cases u<;>simp_all [TK.of]
theorem Aen{op:UnOp}{x:D}{k:D->Prop}(h:unD op x k){s:Nat->Option Sg}{vx:Value}(hx:DR F w M s x vx):
   ∃d v,k d/\DR F w M s d v/\(Op.unary op vx).run P w= .ok v w:=by
 unfold unD at h;split at h
 . cases hx with | p hx=>cases hx;exact ⟨_,_,h,.p (.bool _),by simp[Op.unary]⟩
 . cases hx with | p hx=>cases hx;exact ⟨_,_,h,.p (.int _ _),by simp[Op.unary,Op.intArith]⟩
 . exact h.elim
theorem ZI{x y z:D}{k:D->Prop}(h:ZJ x y z k){s:Nat->Option Sg}{vx vy vz:Value}(hx:DR F w M s x vx)(hy:DR F w M s y vy)(hz:DR F w M s z vz):
   ∃d v,k d/\DR F w M s d v/\(do pure (.value (if <-asBool vx then vy else vz)):Sem Next).run P w= .ok (.value v) w:=by
 unfold ZJ at h;split at h
 . rename_i t b1 b2;cases hx with | p hx=>cases hx;cases hy with | p hy=>cases hy;cases hz with | p hz=>cases hz;refine ⟨_,.bool (if t then b1 else b2),h,.p (.bool _),?_⟩;cases t<;>simp[asBool]
 . cases hx with | p hx=>
     cases hx;rename_i t _;by_cases ht:t=true
     . subst ht;exact ⟨_,_,h.1 rfl,hy,by simp[asBool]⟩
     . have ht':t=false:=by simpa using ht
       subst ht';exact ⟨_,_,h.2 rfl,hz,by simp[asBool]⟩
 . exact h.elim
theorem u5:∀{es:List (List Pd)} {l:List UInt8},Ta es=some l->l.length=es.length
 | [],l,h=>by simp[Ta] at h;subst h;rfl
 | y::r,l,h=>by
   unfold Ta at h;split at h
   . rename_i he;cases he
   . rename_i n r' he;cases he;cases hr:Ta r with
     | none=>rw[hr] at h;cases h
     | some l'=>rw[hr] at h;cases h;simp[u5 hr]
   . cases h
theorem u6:∀{es:List (List Pd)} {l:List UInt8},Ta es=some l->∀(j:Nat),j<es.length->∃n:Int,es[j]?=some [.int .u8 n]/\l[j]?=some (UInt8.ofNat n.toNat)
 | [],l,h,j,hj=>by simp at hj
 | y::r,l,h,j,hj=>by
   unfold Ta at h;split at h
   . rename_i he;cases he
   . rename_i n r' he;cases he;cases hr:Ta r with
     | none=>rw[hr] at h;cases h
     | some l'=>
       rw[hr] at h;cases h;cases j with
       | zero=>exact ⟨n,rfl,rfl⟩
       | succ j=>
         obtain ⟨m,h1,h2⟩:=u6 hr j (by simpa using hj);exact ⟨m,by simpa using h1,by simpa using h2⟩
   . cases h
theorem n8{n:Nat}{p:Nat->Int->Prop}(h:∀j,j<n->∃x,p j x):∃l:List Int,l.length=n/\∀j (hj:j<l.length),p j l[j]:=by
 induction n with
 | zero=>exact ⟨[],rfl,λ j hj=>by simp at hj⟩
 | succ n ih=>
   obtain ⟨l,h1,h2⟩:=ih λ j hj=>h j (by omega);obtain ⟨x,hx⟩:=h n (by omega);refine ⟨l++[x],by simp[h1],λ j hj=>?_⟩;by_cases e:j<l.length
   . rw[List.getElem_append_left e];exact h2 j e
   . have:j=n:=by simp at hj;omega
     subst this;rw[List.getElem_append_right (by omega)]
     simpa [h1] using hx
theorem S9(ns:List Int):ns.foldl (λ r n=>r.push (UInt8.ofNat n.toNat)) ByteArray.empty=⟨(ns.map λ n=>UInt8.ofNat n.toNat).toArray⟩:=by
 have key:∀(ns:List Int) (r:ByteArray),ns.foldl (λ r n=>r.push (UInt8.ofNat n.toNat)) r=⟨r.data++(ns.map λ n=>UInt8.ofNat n.toNat).toArray⟩:=by
   intro ns
   induction ns with
   | nil=>intro r;simp
   | cons n ns ih=>intro r;simp only[Bs,ih];simp[ByteArray.push]
 rw[key];have he0:ByteArray.empty.data=#[]:=rfl;rw[he0];simp
theorem y9{ts td:TypeId}{x:D}{k:D->Prop}(h:z6 P ts td x k){s:Nat->Option Sg}{vx:Value}(hx:DR F w M s x vx):
   ∃d v,k d/\DR F w M s d v/\(convert ts td vx).run P w= .ok v w:=by
 unfold z6 at h;split at h
 . rename_i t1 _ _ kd _ kx n h1 h2;obtain ⟨i1,u1,_,_,Fq,_,_⟩:=Ch h1;obtain ⟨i2,u2,_,_,KE,_,e2⟩:=Ch h2;simp only[TI.mk.injEq] at e2;have Av2:=Jx e2.2.2.1.symm;subst Av2;cases hx with | p hx=>
     cases hx;refine ⟨_,_,h,.p (.int _ _),?_⟩;simp only[convert,Sem.run_bind,run_underlying Fq,run_underlying KE,Result.andThen_ok,Conv.intToInt];rfl
 . rename_i t1 _ _ _ l h1 h2;obtain ⟨i1,u1,_,_,Fq,_,_⟩:=Ch h1;obtain ⟨i2,u2,_,_,KE,_,e2⟩:=Ch h2;simp only[TI.mk.injEq] at e2;have Av2:=D4 e2.2.2.1.symm;subst Av2;cases hx with | p hx=>
     cases hx;refine ⟨_,_,h,.p (.str _),?_⟩;simp only[convert,Sem.run_bind,run_underlying Fq,run_underlying KE,Result.andThen_ok];cases u1<;>simp
 . rename_i t1 e _ _ _ _ es h1 h2;split at h
   case h_2=>exact h.elim
   rename_i b3 z3 l h3 h4;obtain ⟨i1,u1,_,_,Fq,_,e1⟩:=Ch h1;obtain ⟨i2,u2,_,_,KE,_,e2⟩:=Ch h2;obtain ⟨i3,u3,_,_,hu3,_,e3⟩:=Ch h3;simp only[TI.mk.injEq] at e1 e2 e3;obtain rfl:=C4 e1.2.2.1.symm;obtain rfl:=D4 e2.2.2.1.symm;obtain rfl:=Jx e3.2.2.1.symm;refine ⟨_,.string ⟨l.toArray⟩,h,.p (.str l),?_⟩;cases hx with | p hx=>
     have hlen:=u5 h4;cases hx with
     | Zq ad cap=>
       obtain rfl:l=[]:=by simp[Ta] at h4;exact h4
       rw[run_convert_bytes_string w ts td e ad 0 cap Fq hu3 KE];cases ad with
       | none=>simp[Conv.bytesToString];rfl
       | some ad=>
         have:=run_bytesToString (P:=P) w ad 0 cap [] (run_loadCells_list (P:=P) w ad [] (λ j v hj=>by simp at hj));rw[this];rfl
     | sl _ b off cap sz row t fr hF hh hc hs hi hp=>
       have OQ:∀(j:Nat) (hj:j<es.length),∃n:Int,w.cell? ((⟨b,off,none⟩:Addr).add j)=some (.int .u8 n)/\l[j]?=some (UInt8.ofNat n.toNat):=by
         intro j hj;obtain ⟨n,h5,h6⟩:=u6 h4 j hj;have FJ:sz=1:=(hs j _ h5).symm;subst FJ;have h7:=hi j _ 0 (.int .u8 n) h5 rfl;have h8:=hp j _ 0 (.int .u8 n) h5 rfl;rw[Nat.mul_one,Bu] at h7 h8;refine ⟨n,?_,h6⟩;rw[Addr.add_lit];have Pt:w.cell? ⟨b,off+j,none⟩=row[off+j]?:=by simp[World.cell?,hh]
         rw[Pt,Array.getElem?_eq_getElem h7];rw[At,Array.getElem?_eq_getElem h7,A5] at h8;generalize row[off+j]=y at h8;cases h8;rfl
       have hns:∃ns:List Int,ns.length=es.length/\∀j (hj:j<ns.length),w.cell? ((⟨b,off,none⟩:Addr).add j)=some (.int .u8 ns[j])/\l[j]?=some (UInt8.ofNat ns[j].toNat):=
         n8 (n:=es.length) (p:=λ j n=>w.cell? ((⟨b,off,none⟩:Addr).add j)=some (.int .u8 n)/\l[j]?=some (UInt8.ofNat n.toNat)) OQ
       obtain ⟨ns,Yk,hn2⟩:=hns;rw[run_convert_bytes_string w ts td e _ es.length cap Fq hu3 KE];have hl:=run_loadCells_list (P:=P) w ⟨b,off,none⟩ (ns.map (Value.int .u8)) (λ j v hj=>by
         have Hu:j<ns.length:=by simpa using (List.getElem?_eq_some_iff.1 hj).1
         rw[(hn2 j Hu).1];simp[Az Hu] at hj;rw[<-hj])
       simp only[Ba] at hl;rw[Yk] at hl;have:=run_bytesToString (P:=P) w ⟨b,off,none⟩ es.length cap ns hl;rw[this];have hll:ns.map (λ n=>UInt8.ofNat n.toNat)=l:=by
         refine List.ext_getElem? λ j=>?_;by_cases hj:j<ns.length
         . rw[AS,Az hj,(hn2 j hj).2];rfl
         . rw[List.getElem?_eq_none (by simpa using hj),List.getElem?_eq_none (by omega)]
       rw[S9,hll]
 . exact h.elim
theorem RS{t:TypeId}{x:D}{f:Nat}{hp:Hp}{k:D->Prop}(h:JS P t x f hp k){vx:Value}(hx:DR F w M (sg hp) x vx):
   ∃d v,k d/\DR F w M (sg hp) d v/\(Instr.fieldAt t vx f).run P w= .ok v w:=by
 unfold JS at h;cases ht:CJ P t with
 | none=>rw[ht] at h;simp at h
 | some ti=>
   obtain ⟨i,u,z,hi,hu,hz,rfl⟩:=Ch ht;rw[ht] at h;(try simp only at h);split at h
   case h_2=>exact h.elim
   rename_i fs z' he;simp only[Al,TI.mk.injEq] at he;obtain ⟨gs,rfl,rfl⟩:=Md he.2.2.1;rw[AS] at h;cases hf:gs.toList[f]? with
   | none=>rw[hf] at h;simp at h
   | some fd=>
     rw[hf] at h;simp only[Bk] at h;have hf':gs[f]?=some fd:=by simpa using hf
     cases OC:CJ P fd.type with
     | none=>rw[OC] at h;exact h.elim
     | some tj=>
       rw[OC] at h;obtain ⟨i2,u2,z2,Ea,_,_,rfl⟩:=Ch OC;obtain ⟨Dt,h⟩:=h;simp only at Dt;have run:∀b off,vx= .pointer (some ⟨b,off,none⟩)->(Instr.fieldAt t vx f).run P w= .ok (.pointer (some ⟨b,off+fd.offset,none⟩)) w:=by
         rintro b off rfl;simp[Instr.fieldAt,run_underlying hu,hf',Instr.sureAddr,fieldPlace,Dw Ea,Dt,Addr.add_lit]
       cases x with
       | ptr id off=>
         cases hx with
         | ptr _ _ hs=>exact ⟨_,_,h,.ptr id (off+fd.offset) hs,run _ _ rfl⟩
       | pe cs=>
         cases hx with
         | pe _ b off row e fr hF hh UB hp'=>
           refine ⟨_,_,h,.pe _ b (off+fd.offset) row e fr hF hh (λ j c hj=>?_) (λ j c hj=>?_),run _ _ rfl⟩
           . rw[AR] at hj;have:=UB _ c hj;omega
           . rw[AR] at hj;have:=hp' _ c hj;rwa[Nat.add_assoc]
       | ea id j q N=>
         obtain ⟨hN,h⟩:=h;cases hx with
         | ea _ _ _ _ sz n v hs hle _ h2=>
           rw[hs] at hN;obtain ⟨rfl,Cv⟩:=h2 hN;exact ⟨_,_,h,.ea id j (q+fd.offset) N sz n _ hs hle ⟨_,rfl⟩ (λ _=>⟨by rw[Nat.add_assoc],Cv⟩),run _ _ rfl⟩
       | _=>exact h.elim
theorem NY{t:TypeId}{i:TypeInfo}{u:TypeDesc}(hi:P.info? t=some i)(hu:P.underlying t=some u){cs:Array Value}{off:Nat}
   (Ks:(TK.of u).isAgg=false->off<cs.size):
   (part t cs off).run P w= .ok (if (TK.of u).isAgg then .agg ((cs.toList.drop off).take i.size).toArray else cs.getD off undef) w:=by
 unfold part;rw[Sem.run_bind,TO hu w];simp only[Result.andThen_ok];cases hk:(TK.of u).isAgg with
 | false=>
   have Cv:=Ks hk;simp[Cv]
 | true=>
   simp only[AP,Dw hi w,Sem.run_bind,Result.andThen_ok,Sem.run_pure]
   congr 2
   apply Array.ext';simp[List.drop_take]
theorem Apa{ks:List FK}{X Y:List D}{b:Bool}(h:NJ (.int::ks) X Y=some b):∃k a c xs ys b2,X= .p (.int k a)::xs/\Y= .p (.int k c)::ys/\NJ ks xs ys=some b2/\b=(decide (a=c)&&b2):=by
 unfold NJ at h;split at h<;>try (first | (cases h;done) | (rename_i e0 _ _;cases e0;done) | (rename_i e0;cases e0;done))
 all_goals first
   | (rename_i e0
      injection e0 with e1 e2
      subst e2;split at h
      . rename_i ek;subst ek;obtain ⟨b2,h1,rfl⟩:=BO.1 h;exact ⟨_,_,_,_,_,b2,rfl,rfl,h1,rfl⟩
      . cases h)
   | skip
theorem Ais{ks:List FK}{X Y:List D}{b:Bool}(h:NJ (.bool::ks) X Y=some b):∃a c xs ys b2,X= .p (.bool a)::xs/\Y= .p (.bool c)::ys/\NJ ks xs ys=some b2/\b=((a==c)&&b2):=by
 unfold NJ at h;split at h<;>try (first | (cases h;done) | (rename_i e0 _ _;cases e0;done) | (rename_i e0;cases e0;done))
 all_goals first
   | (rename_i e0
      injection e0 with e1 e2
      subst e2;obtain ⟨b2,h1,rfl⟩:=BO.1 h;exact ⟨_,_,_,_,b2,rfl,rfl,h1,rfl⟩)
   | skip
theorem z8{ks:List FK}{X Y:List D}{b:Bool}(h:NJ (.str::ks) X Y=some b):∃a c xs ys b2,X= .p (.str a)::xs/\Y= .p (.str c)::ys/\NJ ks xs ys=some b2/\b=(decide (a=c)&&b2):=by
 unfold NJ at h;split at h<;>try (first | (cases h;done) | (rename_i e0 _ _;cases e0;done) | (rename_i e0;cases e0;done))
 all_goals first
   | (rename_i e0
      injection e0 with e1 e2
      subst e2;obtain ⟨b2,h1,rfl⟩:=BO.1 h;exact ⟨_,_,_,_,b2,rfl,rfl,h1,rfl⟩)
   | skip
theorem Ny{s:Nat->Option Sg}{vx vy:Array Value}{xs ys:List D}(hlx:vx.size=xs.length)(hly:vy.size=ys.length)(hx:∀(i:Nat) c,xs[i]?=some c->DR F w M s c (vx.getD i undef))(hy:∀(i:Nat) c,ys[i]?=some c->DR F w M s c (vy.getD i undef))(d:Nat):
   ∀(fs:List Field) (i:Nat) (ks:List FK) (b:Bool),JR P i fs=some ks->NJ ks (xs.drop i) (ys.drop i)=some b->(Op.eqFields (d+1) vx vy fs).run P w= .ok b w:=by
 intro fs
 induction fs with
 | nil=>
   intro i ks b hf hc;simp only[JR,Al] at hf;subst hf;cases IE:xs.drop i<;>cases Ox:ys.drop i<;>rw[IE,Ox] at hc<;>simp[NJ] at hc;subst hc;rfl
 | cons f fs ih=>
   intro i ks b hf hc;simp only[JR] at hf;split at hf
   case isFalse=>cases hf
   rename_i hn;obtain ⟨hn,Ava⟩:=hn;have SN:∀{zs:List D} {q:D} {r:List D},zs.drop i=q::r->zs[i]?=some q/\i<zs.length/\zs.drop (i+1)=r:=λ {zs q r} h=>by
     have h1:i<zs.length:=by
       by_cases h2:i<zs.length
       . exact h2
       . rw[List.drop_eq_nil_of_le (by omega)] at h;cases h
     rw[AT h1] at h;cases h;exact ⟨by simp,h1,rfl⟩
   have step:∀{u:TypeDesc} {inf:TypeInfo} (hu:P.underlying f.type=some u) (hi:P.info? f.type=some inf) (ha:(TK.of u).isAgg=false) {b1 b2:Bool} {p q:Value},
       vx.getD i undef=p->vy.getD i undef=q->i<vx.size->i<vy.size->(Op.equalIn (d+1) f.type p q).run P w= .ok b1 w->(b1=true->(Op.eqFields (d+1) vx vy fs).run P w= .ok b2 w)->
       (Op.eqFields (d+1) vx vy (f::fs)).run P w= .ok (b1&&b2) w:=by
     intro u inf hu hi ha b1 b2 p q hp hq hlx' hly' he hr;simp only[Op.eqFields,hn,ne_eq,not_false_eq_true,AP,Sem.run_bind];rw[NY (w:=w) hi hu (λ _=>by omega)];simp only[ha,Ava,hp,Result.andThen_ok,AM,Bb];rw[NY (w:=w) hi hu (λ _=>by omega)];simp only[ha,hq,Result.andThen_ok,he,AM,Bb];cases b1
     . simp
     . simp[hr rfl]
   have both:∀(l:List FK) {x y:D} {xr yr:List D} {b2:Bool},xs.drop i=x::xr->ys.drop i=y::yr->JR P (i+1) fs=some l->NJ l xr yr=some b2->(Op.eqFields (d+1) vx vy fs).run P w= .ok b2 w:=by
     intro l x y xr yr b2 IE Ox hl VD;obtain ⟨_,_,rx⟩:=SN IE;obtain ⟨_,_,ry⟩:=SN Ox;exact ih (i+1) l b2 hl (by rw[rx,ry];exact VD)
   split at hf
   . rename_i l h1 h2;simp only[Al] at hf;subst hf;obtain ⟨inf,u,z,hi,hu,_,e⟩:=Ch h1;simp only[TI.mk.injEq] at e;obtain rfl:=Jx e.2.2.1.symm;obtain ⟨k1,a1,a2,xr,yr,b2,IE,Ox,VD,rfl⟩:=Apa hc;obtain ⟨gx,lx,_⟩:=SN IE;obtain ⟨gy,ly,_⟩:=SN Ox;have dx:=hx i _ gx;have dy:=hy i _ gy;refine step hu hi rfl (p:= .int k1 a1) (q:= .int k1 a2) ?_ ?_ (by omega) (by omega) ?_ (λ _=>both l IE Ox h2 VD)
     . generalize vx.getD i undef=v at dx;cases dx with | p h=>cases h;rfl
     . generalize vy.getD i undef=v at dy;cases dy with | p h=>cases h;rfl
     . rw[run_equalIn_int w d f.type k1 _ a1 a2 hu,Tt]
   . rename_i l h1 h2;simp only[Al] at hf;subst hf;obtain ⟨inf,u,z,hi,hu,_,e⟩:=Ch h1;simp only[TI.mk.injEq] at e;obtain rfl:=PO e.2.2.1.symm;obtain ⟨a1,a2,xr,yr,b2,IE,Ox,VD,rfl⟩:=Ais hc;obtain ⟨gx,lx,_⟩:=SN IE;obtain ⟨gy,ly,_⟩:=SN Ox;have dx:=hx i _ gx;have dy:=hy i _ gy;refine step hu hi rfl (p:= .bool a1) (q:= .bool a2) ?_ ?_ (by omega) (by omega) ?_ (λ _=>both l IE Ox h2 VD)
     . generalize vx.getD i undef=v at dx;cases dx with | p h=>cases h;rfl
     . generalize vy.getD i undef=v at dy;cases dy with | p h=>cases h;rfl
     . exact run_equalIn_bool' w d f.type a1 a2 hu
   . rename_i l h1 h2;simp only[Al] at hf;subst hf;obtain ⟨inf,u,z,hi,hu,_,e⟩:=Ch h1;simp only[TI.mk.injEq] at e;obtain rfl:=D4 e.2.2.1.symm;obtain ⟨a1,a2,xr,yr,b2,IE,Ox,VD,rfl⟩:=z8 hc;obtain ⟨gx,lx,_⟩:=SN IE;obtain ⟨gy,ly,_⟩:=SN Ox;have dx:=hx i _ gx;have dy:=hy i _ gy;refine step hu hi rfl (p:= .string ⟨a1.toArray⟩) (q:= .string ⟨a2.toArray⟩) ?_ ?_ (by omega) (by omega) ?_ (λ _=>both l IE Ox h2 VD)
     . generalize vx.getD i undef=v at dx;cases dx with | p h=>cases h;rfl
     . generalize vy.getD i undef=v at dy;cases dy with | p h=>cases h;rfl
     . rw[run_equalIn_string w d f.type _ _ hu,ByteArray.toList_eq,ByteArray.toList_eq,Tt]
   . cases hf
def Xe(e:TypeId)(i:Nat):Field:={name:= "x",type:=e,offset:=i,embedded:=false,tag:= "",pkgPath:= "",byteOffset:=0}
def UT(e:TypeId)(s n:Nat):List Field:=(List.range' s n).map (Xe e)
theorem run_equalIn_array{P:Program}(w:World)(d:Nat)(t e:TypeId)(n:Nat)(xs ys:Array Value)(ht:P.underlying t=some (.array n e)){i:TypeInfo}(hi:P.info? e=some i)(hs:i.size=1):
   (Op.equalIn (d+1) t (.agg xs) (.agg ys)).run P w=(Op.eqFields d xs ys (UT e 0 n)).run P w:=by
 simp only[Op.equalIn,Sem.run_bind,run_underlying ht,Result.andThen_ok,Dw hi,hs,Nat.mul_one];rw[Std.Legacy.Range.forIn_eq_forIn_range'];simp only[Std.Legacy.Range.size,Nat.sub_zero,Nat.add_sub_cancel,Nat.div_one];unfold UT;generalize List.range' 0 n=fs
 induction fs generalizing w with
 | nil=>simp[Op.eqFields]
 | cons f fs ih=>
   simp only[List.forIn_cons,AH,Op.eqFields,Xe,Sem.run_bind,Sem.run_ite];rw[if_pos (by decide)];generalize (part e xs f).run P w=r1;cases r1 with
   | ok a w1=>
     simp only[Result.andThen_ok];generalize (part e ys f).run P w1=r2;cases r2 with
     | ok b w2=>
       simp only[Result.andThen_ok];generalize (Op.equalIn d e a b).run P w2=r3;cases r3 with
       | ok r w3=>
         cases r
         . simp only[Result.andThen_ok,Bool.not_false,AP,Sem.run_pure]
         . simp only[Result.andThen_ok,Bool.not_true,AM,Bb,Sem.run_pure];exact ih w3
       | halt x w3=>simp[Result.andThen]
     | halt x w2=>simp[Result.andThen]
   | halt x w1=>simp[Result.andThen]
theorem UN{P:Program}{e:TypeId}{k:FK}(h:∀s,JR P s [Xe e s]=some [k]):∀n s,JR P s (UT e s n)=some (List.replicate n k)
 | 0,s=>rfl
 | n+1,s=>by
   have h1:=h s;have h2:=UN h n (s+1);have e1:UT e s (n+1)=Xe e s::UT e (s+1) n:=by simp[UT,List.range'_succ]
   rw[e1];simp only[JR] at h1 ⊢;rw[h2];split at h1
   case isFalse=>cases h1
   rename_i hc;rw[if_pos hc];split at h1<;>simp_all [List.replicate_succ]
theorem Abw{P:Program}{e:TypeId}{k:FK}(h:Ado P e=some k):(∃i,P.info? e=some i/\i.size=1)/\∀s,JR P s [Xe e s]=some [k]:=by
 unfold Ado at h;split at h
 case h_4=>cases h
 all_goals
   rename_i h1;obtain ⟨i,u,z,hi,hu,hz,e1⟩:=Ch h1;simp only[TI.mk.injEq] at e1;refine ⟨⟨i,hi,e1.1.symm⟩,λ s=>?_⟩;simp only[Al] at h;subst h;simp[JR,Xe,h1]
theorem SL{s:Nat->Option Sg}{vx vy:Value}{t:TypeId}{xs ys:List D}{b:Bool}(h:UW P t xs ys=some b)(hx:DR F w M s (.agg xs) vx)(hy:DR F w M s (.agg ys) vy):
   P.eqGuardType P.depth t=false/\∃as bs,vx= .agg as/\vy= .agg bs/\(Op.equalIn 10000 t (.agg as) (.agg bs)).run P w= .ok b w:=by
 unfold UW Xa at h;obtain ⟨ks,h1,h2⟩:=Option.bind_eq_some_iff.1 h;split at h1
 case isFalse=>cases h1
 rename_i h3;split at h1
 case h_3=>cases h1
 case h_2=>
   rename_i n e hu;cases hk:Ado P e with
   | none=>rw[hk] at h1;cases h1
   | some kk=>
     rw[hk] at h1;simp only[Bk,Al] at h1;subst h1;obtain ⟨⟨i,hi,hs⟩,QA⟩:=Abw hk;cases hx with | agg _ as hl1 h4=>
     cases hy with | agg _ bs Uz h5=>
     refine ⟨h3.1,as,bs,rfl,rfl,?_⟩;rw[run_equalIn_array w 9999 t e n as bs hu hi hs];exact Ny hl1 Uz h4 h5 9998 (UT e 0 n) 0 _ b (UN QA n 0) (by simpa using h2)
 rename_i fs hu;cases hx with | agg _ as hl1 h4=>
 cases hy with | agg _ bs Uz h5=>
 refine ⟨h3.1,as,bs,rfl,rfl,?_⟩;have hf:P.fieldsOf t=fs:=by simp[Program.fieldsOf,hu]
 rw[run_equalIn_struct w 9999 t as bs (by rw[hf];exact hu) h3.2,hf];exact Ny hl1 Uz h4 h5 9998 fs.toList 0 ks b h1 (by simpa using h2)
theorem Aa8{op:BinOp}{x y:D}{k:D->Prop}{t:TypeId}(h:NO P op t x y k){s:Nat->Option Sg}{vx vy:Value}(hx:DR F w M s x vx)(hy:DR F w M s y vy)(ox oy:Operand):
   ∃d v,k d/\DR F w M s d v/\(do eqGuard op t ox oy vx vy;binOp op t vx vy:Sem Value).run P w= .ok v w:=by
 unfold NO at h;split at h
 . rename_i p q;split at h
   . rename_i h1;obtain ⟨_,u1,_,_,Fq,_,e1⟩:=Ch h1;simp only[TI.mk.injEq] at e1;obtain rfl:=PO e1.2.2.1.symm;cases hx with | p hx=>cases hx;cases hy with | p hy=>
     cases hy;have he:(Op.equal t (.bool p) (.bool q)).run P w= .ok (p==q) w:=run_equalIn_bool' w _ t p q Fq;exact ⟨_,_,h,.p (.bool _),by simp[eqGuard,binOp,he]⟩
   . exact h.elim
 . rename_i p q;split at h
   . rename_i h1;obtain ⟨_,u1,_,_,Fq,_,e1⟩:=Ch h1;simp only[TI.mk.injEq] at e1;obtain rfl:=PO e1.2.2.1.symm;cases hx with | p hx=>cases hx;cases hy with | p hy=>
     cases hy;have he:(Op.equal t (.bool p) (.bool q)).run P w= .ok (p==q) w:=run_equalIn_bool' w _ t p q Fq;exact ⟨_,_,h,.p (.bool _),by simp[eqGuard,binOp,he]⟩
   . exact h.elim
 . rename_i xs ys;split at h
   . rename_i b he;obtain ⟨hg,as,bs,rfl,rfl,hr⟩:=SL he hx hy;refine ⟨_,_,h,.p (.bool _),?_⟩;rw[Sem.run_bind,run_eqGuard_agg w .eql t ox oy as bs hg,Result.andThen_ok,run_eql_struct w t as bs,hr];rfl
   . exact h.elim
 . rename_i xs ys;split at h
   . rename_i b he;obtain ⟨hg,as,bs,rfl,rfl,hr⟩:=SL he hx hy;refine ⟨_,_,h,.p (.bool _),?_⟩;rw[Sem.run_bind,run_eqGuard_agg w .neq t ox oy as bs hg,Result.andThen_ok,run_neq_struct w t as bs,hr];rfl
   . exact h.elim
 . rename_i es;split at h
   . rename_i e z h1;obtain ⟨Dt,h⟩:=h;obtain ⟨_,u1,_,_,Fq,_,e1⟩:=Ch h1;simp only[TI.mk.injEq] at e1;obtain rfl:=C4 e1.2.2.1.symm;cases hy with | cl _ ad hy hn=>
     obtain rfl:=hn rfl;cases hx with | p hx=>
     cases hx with
     | Zq _ _=>exact (Dt rfl).elim
     | sl _ b off cap sz row t2 fr hF hh hc hs hi hp=>
       have he:=Lib.run_eql_slice_nil w t _ (some ⟨b,off,none⟩) es.length cap 0 0 Fq;exact ⟨_,_,h,.p (.bool _),by simpa [eqGuard] using he⟩
   . exact h.elim
 . rename_i es;split at h
   . rename_i e z h1;obtain ⟨_,u1,_,_,Fq,_,e1⟩:=Ch h1;simp only[TI.mk.injEq] at e1;obtain rfl:=C4 e1.2.2.1.symm;cases hy with | cl _ ad hy hn=>
     obtain rfl:=hn rfl;cases hx with | cl _ ad2 hx hn2=>
     have he:=Lib.run_eql_slice_nil w t _ ad2 es.length es.length 0 0 Fq;have hb:ad2.isNone=es.isEmpty:=by
       cases es with
       | nil=>rw[hn2 rfl];rfl
       | cons x r=>cases hx;rfl
     rw[hb] at he;exact ⟨_,_,h,.p (.bool _),by simpa [eqGuard] using he⟩
   . exact h.elim
 . exact Acq h hx hy t ox oy
theorem Yu{t:TypeId}{x:D}{f:Nat}{k:D->Prop}(h:UR P t x f k){s:Nat->Option Sg}{vx:Value}(hx:DR F w M s x vx):
   ∃d v,k d/\DR F w M s d v/\(Instr.field t vx f).run P w= .ok v w:=by
 unfold UR at h;cases ht:CJ P t with
 | none=>rw[ht] at h;simp at h
 | some ti=>
   obtain ⟨i,u,z,hi,hu,hz,rfl⟩:=Ch ht;rw[ht] at h;(try simp only at h);split at h
   case h_2=>exact h.elim
   rename_i fs z' he;simp only[Al,TI.mk.injEq] at he;obtain ⟨gs,rfl,rfl⟩:=Md he.2.2.1;rw[AS] at h;cases hf:gs.toList[f]? with
   | none=>rw[hf] at h;simp at h
   | some fd=>
     rw[hf] at h;simp only[Bk] at h;have hf':gs[f]?=some fd:=by simpa using hf
     cases x with
     | agg cs=>
       simp only at h;cases OC:CJ P fd.type with
       | none=>rw[OC] at h;exact h.elim
       | some tj=>
         rw[OC] at h;obtain ⟨i2,u2,z2,Ea,KE,_,rfl⟩:=Ch OC;cases hx with
         | agg _ vs hl hc=>
           obtain ⟨h1,h2,d,hk,hd⟩:=MZ (F:=F) (w:=w) (M:=M) h (s:=s) hl hc;exact ⟨d,_,hk,hd,by simp only[Instr.field,Sem.run_bind,run_underlying hu,Result.andThen_ok,hf',asAgg,Sem.run_pure];exact NY Ea KE h2⟩
     | _=>simp at h
theorem Yf{t:TypeId}{x y:D}{k:D->Prop}(h:Um P t x y k){s:Nat->Option Sg}{vx vy:Value}(hx:DR F w M s x vx)(hy:DR F w M s y vy):
   ∃d v,k d/\DR F w M s d v/\(Instr.index t vx vy).run P w= .ok v w:=by
 unfold Um at h;split at h
 . rename_i _ _ _ l kd n h1;obtain ⟨i1,u1,_,_,Fq,_,e1⟩:=Ch h1;simp only[TI.mk.injEq] at e1;have hu':=D4 e1.2.2.1.symm;subst hu';cases hx with | p hx=>
     cases hx;cases hy with | p hy=>
       cases hy;obtain ⟨⟨h0,h2⟩,h⟩:=h;have Cv:n.toNat<l.length:=by omega
       refine ⟨_,.int .u8 (l.getD n.toNat 0).toNat,h,.p (.int _ _),?_⟩;have hb:(⟨l.toArray⟩:ByteArray)[n.toNat]?=some (l.getD n.toNat 0):=by
         rw[ByteArray.getElem?_lt' _ _ (by simpa [ByteArray.size] using Cv)];simp[List.getD,Cv];rfl
       simp only[Instr.index,asIntOf,Sem.run_bind,Sem.run_pure,run_underlying Fq,Result.andThen_ok,h0,AP,hb]
 . rename_i _ _ _ m e _ cs kd n h1;obtain ⟨i1,u1,_,_,Fq,_,e1⟩:=Ch h1;simp only[TI.mk.injEq] at e1;have hu':=ID e1.2.2.1.symm;subst hu';cases OC:CJ P e with
   | none=>rw[OC] at h;exact h.elim
   | some tj=>
     rw[OC] at h;obtain ⟨i2,u2,z2,Ea,KE,_,rfl⟩:=Ch OC;obtain ⟨⟨h0,h2⟩,h⟩:=h;cases hx with
     | agg _ vs hl hc=>
       cases hy with | p hy=>
         cases hy;obtain ⟨h3,h4,d,hk,hd⟩:=MZ (F:=F) (w:=w) (M:=M) h (s:=s) hl hc;exact ⟨d,_,hk,hd,by simp only[Instr.index,asIntOf,Sem.run_bind,Sem.run_pure,run_underlying Fq,Result.andThen_ok,h0,h2,and_self,AP,Dw Ea w];exact NY Ea KE h4⟩
 . exact h.elim
theorem UU{x:D}{i:Nat}{k:D->Prop}(h:Nx x i k){s:Nat->Option Sg}{vx:Value}(hx:DR F w M s x vx):
   ∃d v,k d/\DR F w M s d v/\(Instr.extract vx i).run P w= .ok v w:=by
 unfold Nx at h;split at h
 . rename_i cs;cases hx with
   | Dv _ vs hl hc=>
     cases hd:cs[i]? with
     | none=>rw[hd] at h;exact h.elim
     | some d=>
       rw[hd] at h;have Cv:=(Ao.1 hd).1;refine ⟨d,_,h,hc i d hd,?_⟩;have:i<vs.size:=by omega
       simp[Instr.extract,this]
 . exact h.elim
end
end Go.Am
namespace Go.Am
open Go
section
variable {P:Program} {c:Ctx} {st:St} {a:Act} {w:World} {F:Nat->Prop} {M:Nat->Mb}
theorem I9{t e:TypeId}{i:TypeInfo}(hu:P.underlying t=some (.slice e))(hi:P.info? e=some i){ad:Addr}{len cap:Nat}{k:IntKind}{n:Int}(hn:0<=n/\n<len):
   (Instr.indexAt t (.slice (some ad) len cap) (.int k n)).run P w= .ok (.pointer (some (ad.add (n.toNat*i.size)))) w:=by
 simp[Instr.indexAt,run_underlying hu,asIntOf,hn,Dw hi]
theorem KM{t e:TypeId}{m:Nat}{i:TypeInfo}(hu:P.underlying t=some (.array m e))(hi:P.info? e=some i){ad:Addr}{k:IntKind}{n:Int}(hn:0<=n/\n<m):
   (Instr.indexAt t (.pointer (some ad)) (.int k n)).run P w= .ok (.pointer (some (ad.add (n.toNat*i.size)))) w:=by
 simp[Instr.indexAt,run_underlying hu,asIntOf,hn,Dw hi,Instr.sureAddr]
theorem ZK{es:List (List Pd)}{v:Value}(h:PR F w (.sl es) v){n:Nat}(hn:n<es.length){s:Nat->Option Sg}:
   ∃b off cap sz,v= .slice (some ⟨b,off,none⟩) es.length cap/\(es.getD n []).length=sz/\DR F w M s (.pe (es.getD n [])) (.pointer (some ⟨b,off+n*sz,none⟩)):=by
 cases h with
 | Zq=>simp at hn
 | sl _ b off cap sz row t fr hF hh hc hs hi hp=>
   have he:es[n]?=some (es.getD n []):=by simp[List.getD,hn]
   exact ⟨b,off,cap,sz,rfl,hs n _ he,.pe _ b (off+n*sz) row t fr hF hh (λ j c hj=>hi n _ j c he hj) (λ j c hj=>hp n _ j c he hj)⟩
theorem RG{t:TypeId}{x y:D}{hp:Hp}{k:D->Prop}(h:JO P t x y hp k){vx vy:Value}(hx:DR F w M (sg hp) x vx)(hy:DR F w M (sg hp) y vy):
   ∃d v,k d/\DR F w M (sg hp) d v/\(Instr.indexAt t vx vy).run P w= .ok v w:=by
 unfold JO at h;split at h
 . rename_i _ _ _ _ e _ kd n h1;obtain ⟨i1,u1,_,_,Fq,_,e1⟩:=Ch h1;simp only[TI.mk.injEq] at e1;have hu':=C4 e1.2.2.1.symm;subst hu';cases OC:CJ P e with
   | none=>rw[OC] at h;exact h.elim
   | some tj=>
     rw[OC] at h;(try simp only at h);obtain ⟨i2,u2,z2,Ea,KE,_,e5⟩:=Ch OC;subst e5;cases hy with | p hy=>
       cases hy;split at h
       . rename_i es _;obtain ⟨hn,FJ,h⟩:=h;cases hx with | p hx=>
           obtain ⟨b,off,cap,sz,rfl,h3,h4⟩:=ZK (M:=M) hx (n:=n.toNat) (by omega) (s:=sg hp);have e2:sz=i2.size:=h3.symm.trans FJ;subst e2;exact ⟨_,_,h,h4,by rw[I9 Fq Ea hn,Addr.add_lit]⟩
       . rename_i es _;obtain ⟨hn,FJ,h⟩:=h;cases hx with | cl _ ad hx _=>
           obtain ⟨b,off,cap,sz,e3,h3,h4⟩:=ZK (M:=M) hx (n:=n.toNat) (by omega) (s:=sg hp);have e2:sz=i2.size:=h3.symm.trans FJ;subst e2;cases e3;exact ⟨_,_,h,h4,by rw[I9 Fq Ea hn,Addr.add_lit]⟩
       . rename_i id off len N;cases hx with
         | ref _ _ _ _ sz m v hs hN _ h2=>
           rw[hs] at h;simp only at h;obtain ⟨hn,rfl,rfl,h⟩:=h;obtain ⟨ad,cap,rfl,h3,h4,h5,h6⟩:=h2 rfl;have h7:ad=some ⟨(M id).DQ,off*i2.size,none⟩:=h6.resolve_left (by omega);subst h7;refine ⟨_,_,h,.ea id (off+n.toNat) 0 N i2.size N _ hs (Ai _) ⟨_,rfl⟩ (λ _=>⟨rfl,by omega⟩),?_⟩;rw[I9 Fq Ea hn,Addr.add_lit];simp only[A2,Bu]
       . rename_i id N;obtain ⟨hn,FJ,h⟩:=h;cases hx with
         | DI _ _ sz m k v hs hN hv h2=>
           obtain ⟨ad,cp,rfl,hb⟩:=hv;obtain ⟨b,rfl⟩:=hb.resolve_left (by omega);refine ⟨_,_,h,.M9 id n.toNat N sz m k b hs hN (by omega) (λ e=>?_),?_⟩
           . obtain ⟨a2,c2,g1,g2,g3,g4,g5⟩:=h2 e;cases g1;rcases g5 with g5 | g5
             . omega
             . cases g5;exact ⟨rfl,by omega⟩
           . simp only at FJ;rw[I9 Fq Ea hn,Addr.add_lit,FJ];simp
       . exact h.elim
 . rename_i _ _ _ _ m e _ kd n h1;obtain ⟨i1,u1,_,_,Fq,_,e1⟩:=Ch h1;simp only[TI.mk.injEq] at e1;have hu':=ID e1.2.2.1.symm;subst hu';cases OC:CJ P e with
   | none=>rw[OC] at h;exact h.elim
   | some tj=>
     rw[OC] at h;(try simp only at h);obtain ⟨i2,u2,z2,Ea,KE,_,e5⟩:=Ch OC;subst e5;cases hy with | p hy=>
       cases hy;split at h
       . rename_i _ _ _ id off e3;obtain ⟨hn,h⟩:=h;cases e3;cases hx with | ptr _ _ hs=>
           exact ⟨_,_,h,.ptr id _ hs,by rw[KM Fq Ea hn,Addr.add_lit]⟩
       . rename_i _ _ _ cs e3;obtain ⟨hn,h⟩:=h;cases e3;cases hx with
         | pe _ b off row e fr hF hh UB hp'=>
           refine ⟨_,_,h,.pe _ b (off+n.toNat*i2.size) row e fr hF hh (λ j c hj=>?_) (λ j c hj=>?_),by rw[KM Fq Ea hn,Addr.add_lit]⟩
           . rw[AR] at hj;have:=UB _ c hj;simp only at this;omega
           . rw[AR] at hj;have:=hp' _ c hj;rwa[Nat.add_assoc]
       . exact h.elim
 . exact h.elim
def Tv(a:Act)(o:Option Operand)(Yx n:Int):Prop:=(o=none/\n=Yx)∨∃x kd,o=some x/\a.eval x= .int kd n
theorem Ej(hr:Rel c st a w F M){o:Option Operand}{Yx:Int}{k:Int->Prop}(h:Fp st o Yx k):∃n,k n/\Tv a o Yx n:=by
 unfold Fp at h;cases o with
 | none=>exact ⟨Yx,h,.inl ⟨rfl,rfl⟩⟩
 | some x=>
   simp only at h;have hx:=Co hr x;split at h
   . rename_i kd n he;rw[he] at hx;generalize hv:a.eval x=v at hx;cases hx with | p hx=>exact ⟨n,h,.inr ⟨x,kd,rfl,by cases hx;exact hv⟩⟩
   . exact h.elim
theorem O9{isSlice:Bool}{len cap:Nat}{lo hi:Option Operand}{x y:Int}(hlo:Tv a lo 0 x)(hhi:Tv a hi len y)(h0:0<=x)(h1:x<=y)(h2:y<=cap):
   (Instr.sliceBounds isSlice len cap (lo.map a.eval) (hi.map a.eval) none).run P w= .ok (x.toNat,y.toNat,cap) w:=by
 have hy:((y.toNat:Nat):Int)=y:=by omega
 have YX:0<=y:=by omega
 have hm:max y 0=y:=by omega
 rcases hhi with ⟨rfl,rfl⟩ | ⟨q,kq,rfl,hq⟩<;>rcases hlo with ⟨rfl,rfl⟩ | ⟨q',kq',rfl,Y2⟩
 . simp[Instr.sliceBounds]
 . simp[Instr.sliceBounds,Instr.sliceBound,asIntOf,h0,h1,Y2]
 . simp[Instr.sliceBounds,Instr.sliceBound,asIntOf,h2,hq,YX]
 . simp[Instr.sliceBounds,Instr.sliceBound,asIntOf,h0,h1,h2,hq,Y2,YX,hm]
theorem Zw{len cap:Nat}{lo:Option Operand}{hi mx:Operand}{x y:Int}{kh kx:IntKind}(hlo:Tv a lo 0 x)
   (hhi:a.eval hi= .int kh y) (hmx:a.eval mx= .int kx y) (h0:0<=x) (h1:x<=y) (h2:y<=cap):
   (Instr.sliceBounds true len cap (lo.map a.eval) ((some hi).map a.eval) ((some mx).map a.eval)).run P w= .ok (x.toNat,y.toNat,y.toNat) w:=by
 have hy:((y.toNat:Nat):Int)=y:=by omega
 have YX:0<=y:=by omega
 have hm:max y 0=y:=by omega
 rcases hlo with ⟨rfl,rfl⟩ | ⟨q',kq',rfl,Y2⟩
 . simp[Instr.sliceBounds,Instr.sliceBound,asIntOf,h2,hhi,hmx,YX,hm]
 . simp[Instr.sliceBounds,Instr.sliceBound,asIntOf,h0,h1,h2,hhi,hmx,Y2,YX,hm]
theorem Kk{α:Type}(es:List α)(x y i:Nat):((es.take y).drop x)[i]?=if x+i<y then es[x+i]? else none:=by
 rw[AR,AI]
theorem PR.part{es:List (List Pd)}{len cap:Nat}{ad:Option Addr}(h:PR F w (.sl es) (.slice ad len cap)){x y m sz:Nat}(hx:x<=y)(hy:y<=es.length)(hm:y<=m)(hc:m<=cap)
   (FJ:∀(i:Nat) e,es[i]?=some e->e.length=sz):
   PR F w (.sl ((es.take y).drop x)) (.slice (if m=x then ad else ad.map (·.add (x*sz))) (y - x) (m - x)):=by
 have hlen:((es.take y).drop x).length=y - x:=by simp;omega
 by_cases h0:y - x=0
 . have:(es.take y).drop x=[]:=AY (by omega);rw[this,h0];exact .Zq _ _
 . cases h with
   | Zq=>simp at hy;omega
   | sl _ b off cap Sc row t fr hF hh hc' hs hi hp=>
     have e1:es[0]?=some (es.getD 0 []):=by
       have:0<es.length:=by omega
       simp[List.getD,this]
     have e2:Sc=sz:=(hs 0 _ e1).symm.trans (FJ 0 _ e1);subst e2;rw[if_neg (by omega)];simp only[Bk,Addr.add_lit];rw[<-hlen];refine .sl _ b (off+x*Sc) (m - x) Sc row t fr hF hh (by omega) (λ i e he=>?_) (λ i e j q he hj=>?_) (λ i e j q he hj=>?_)
     . rw[Kk] at he;split at he
       . exact hs _ _ he
       . cases he
     . rw[Kk] at he;split at he
       . have:=hi _ _ j q he hj;rw[A2] at this;omega
       . cases he
     . rw[Kk] at he;split at he
       . have:=hp _ _ j q he hj;rw[A2] at this;rwa[show off+x*Sc+i*Sc+j=off+(x*Sc+i*Sc)+j from by omega]
       . cases he
theorem LC{t e:TypeId}{i:TypeInfo}(hu:P.underlying t=some (.slice e))(hi:P.info? e=some i){ad:Option Addr}{len cap:Nat}{lo UB mx:Option Value}{x y m:Nat}
   (hb:(Instr.sliceBounds true len cap lo UB mx).run P w= .ok (x,y,m) w):
   (Instr.sliceAt t (.slice ad len cap) lo UB mx).run P w= .ok (.slice (if m=x then ad else ad.map (·.add (x*i.size))) (y - x) (m - x)) w:=by
 simp[Instr.sliceAt,Instr.slice,run_underlying hu,hb,Dw hi]
theorem XP(hr:Rel c st a w F M){t:TypeId}{x:D}{lo hi mx:Option Operand}{k:D->Prop}(h:TG P st t x lo hi mx k){vx:Value}(hx:DR F w M (sg st.hp) x vx):
   ∃d v,k d/\DR F w M (sg st.hp) d v/\(Instr.sliceAt t vx (lo.map a.eval) (hi.map a.eval) (mx.map a.eval)).run P w= .ok v w:=by
 unfold TG at h;split at h
 . rename_i _ _ _ l h1;obtain ⟨i1,u1,_,_,Fq,_,e1⟩:=Ch h1;simp only[TI.mk.injEq] at e1;have hu':=D4 e1.2.2.1.symm;subst hu';obtain ⟨hmx,h⟩:=h;have Avc:mx=none:=by simpa using hmx
   subst Avc;obtain ⟨x,h,hlo⟩:=Ej hr h;obtain ⟨y,h,hhi⟩:=Ej hr h;obtain ⟨⟨h0,h2,h3⟩,h⟩:=h;cases hx with | p hx=>
     cases hx;have hb:=O9 (P:=P) (w:=w) (isSlice:=false) (len:=(⟨l.toArray⟩:ByteArray).size) (cap:=(⟨l.toArray⟩:ByteArray).size) hlo (by rw[HB];exact hhi) h0 h2 (by rw[HB];exact h3);refine ⟨_,_,h,.p (.str _),?_⟩;simp only[Instr.sliceAt,Instr.slice,Sem.run_bind,run_underlying Fq,Result.andThen_ok,Option.map_none,Bd,AM,Bb,Sem.run_ite,hb,Sem.run_pure]
     congr 2
     apply ByteArray.ext;apply Array.ext';simp[List.drop_take]
 . rename_i _ _ _ _ e _ h1;obtain ⟨i1,u1,_,_,Fq,_,e1⟩:=Ch h1;simp only[TI.mk.injEq] at e1;have hu':=C4 e1.2.2.1.symm;subst hu';cases OC:CJ P e with
   | none=>rw[OC] at h;exact h.elim
   | some tj=>
     rw[OC] at h;obtain ⟨i2,u2,z2,Ea,KE,_,rfl⟩:=Ch OC;simp only at h;split at h
     . rename_i es;cases hx with | p hx=>
         split at h
         . obtain ⟨x,h,hlo⟩:=Ej hr h;obtain ⟨y,h,hhi⟩:=Ej hr h;obtain ⟨⟨h0,h2,h3⟩,FJ,h⟩:=h;have Sz:=hx;have hv:∃ad cap,vx= .slice ad es.length cap/\es.length<=cap:=by
             cases hx with
             | Zq ad cap=>exact ⟨_,_,rfl,by simp⟩
             | sl _ b off cap sz row t fr hF hh hc=>exact ⟨_,_,rfl,hc⟩
           obtain ⟨ad,cap,rfl,Mx⟩:=hv;have hb:=O9 (P:=P) (w:=w) (isSlice:=true) (len:=es.length) (cap:=cap) hlo hhi h0 h2 (by omega);refine ⟨_,_,h,.p (Sz.part (x:=x.toNat) (y:=y.toNat) (m:=cap) (by omega) (by omega) (by omega) (Ai _) FJ),?_⟩;exact LC Fq Ea hb
         . rename_i mq;obtain ⟨x,h,hlo⟩:=Ej hr h;obtain ⟨y,h,hhi⟩:=Ej hr h;obtain ⟨q,h,hmx⟩:=Ej hr h;obtain ⟨⟨h0,h2,rfl,h3⟩,FJ,Axn,hk⟩:=h;have Sz:=hx;have hv:∃ad cap,vx= .slice ad es.length cap/\es.length<=cap:=by
             cases hx with
             | Zq ad cap=>exact ⟨_,_,rfl,by simp⟩
             | sl _ b off cap sz row t fr hF hh hc=>exact ⟨_,_,rfl,hc⟩
           obtain ⟨ad,cap,rfl,Mx⟩:=hv;obtain ⟨_,kq,e6,hq⟩:=hmx.resolve_left (by simp);cases e6;cases hi with
           | none=>simp at Axn
           | some hi=>
             obtain ⟨_,kh,e7,hh⟩:=hhi.resolve_left (by simp);cases e7;have hb:=Zw (P:=P) (w:=w) (len:=es.length) (cap:=cap) hlo hh hq h0 h2 (by omega);have hp:=Sz.part (x:=x.toNat) (y:=y.toNat) (m:=y.toNat) (by omega) (by omega) (Ai _) (by omega) FJ;have hlen:((es.take y.toNat).drop x.toNat).length=y.toNat - x.toNat:=by simp;omega
             refine ⟨_,_,hk,?_,LC Fq Ea hb⟩;rw[<-hlen] at hp ⊢;exact .cz _ _ hp
     . rename_i id off len N;cases hx with
       | ref _ _ _ _ sz m v hs hN _ h2=>
         rw[hs] at h;simp only at h;obtain ⟨hmx,rfl,h⟩:=h;have Avc:mx=none:=by simpa using hmx
         subst Avc;obtain ⟨x,h,hlo⟩:=Ej hr h;obtain ⟨y,h,hhi⟩:=Ej hr h;obtain ⟨⟨h0,h5,h6⟩,h⟩:=h;obtain ⟨rfl,hk⟩:=h;obtain ⟨ad,cap,rfl,h7,h8,h9,LX⟩:=h2 rfl;have hb:=O9 (P:=P) (w:=w) (isSlice:=true) (len:=len) (cap:=cap) hlo hhi h0 h5 (by omega);refine ⟨_,_,hk,?_,LC Fq Ea hb⟩;refine .ref id (off+x.toNat) (y - x).toNat N i2.size N _ hs (Ai _) ⟨_,_,_,rfl⟩ (λ _=>?_);have e3:(y - x).toNat=y.toNat - x.toNat:=by omega
         rw[e3];refine ⟨_,_,rfl,by omega,by omega,by omega,?_⟩;by_cases hc:cap=x.toNat
         . left;omega
         . right;rw[if_neg hc];have h11:=LX.resolve_left (by omega);rw[h11];simp only[Bk,Addr.add_lit,A2]
     . exact h.elim
 . exact h.elim
def KA(F:Nat->Prop)(w:World)(M:Nat->Mb)(s:Nat->Option Sg)(cs:List D)(vs:List Value):Prop:=
 vs.length=cs.length/\∀(i:Nat) c,cs[i]?=some c->DR F w M s c (vs.getD i undef)
theorem KA.append{s:Nat->Option Sg}{cs cs':List D}{vs vs':List Value}(h:KA F w M s cs vs)(h':KA F w M s cs' vs'):KA F w M s (cs++cs') (vs++vs'):=by
 refine ⟨by simp[h.1,h'.1],λ i c hc=>?_⟩;rw[AL] at hc;have h1:=h.1;split at hc
 . rename_i Cv;have:=h.2 i c hc;rw[Av] at this ⊢;rwa[AW (by omega)]
 . rename_i hge;have:=h'.2 _ c hc;rw[Av] at this ⊢;rwa[A1 (by omega),h1]
theorem KA.take{s:Nat->Option Sg}{cs:List D}{vs:List Value}(h:KA F w M s cs vs)(n:Nat):KA F w M s (cs.take n) (vs.take n):=by
 refine ⟨by simp[h.1],λ i c hc=>?_⟩;rw[AI] at hc;split at hc
 . rename_i Cv;have:=h.2 i c hc;rw[Av] at this ⊢;rwa[AI,if_pos Cv]
 . cases hc
theorem KA.drop{s:Nat->Option Sg}{cs:List D}{vs:List Value}(h:KA F w M s cs vs)(n:Nat):KA F w M s (cs.drop n) (vs.drop n):=by
 refine ⟨by simp[h.1],λ i c hc=>?_⟩;rw[AR] at hc;have:=h.2 _ c hc;rw[Av] at this ⊢;rwa[AR]
theorem DR.cells{s:Nat->Option Sg}{d:D}{v:Value}(h:DR F w M s d v)(hb:d.cells.all D.one=true∨∃cs,d= .agg cs):KA F w M s d.cells v.cells.toList:=by
 have one:∀{d:D} {v:Value},DR F w M s d v->v.cells=#[v]->d.cells=[d]->KA F w M s d.cells v.cells.toList:=by
   intro d v h e1 e2;rw[e1,e2];refine ⟨by simp,λ i c hc=>?_⟩;cases i with
   | zero=>simp only[List.getElem?_cons_zero,Option.some.injEq] at hc;subst hc;simpa [List.getD] using h
   | succ i=>simp at hc
 cases h with
 | p h=>refine one (.p h) ?_ rfl;cases h<;>rfl
 | agg cs vs hl hc=>exact ⟨by simp[Value.cells,D.cells,hl],λ i c h=>by have:=hc i c h;simpa [Value.cells,List.getD,Array.getD_eq_getD_getElem?] using this⟩
 | Dv cs vs hl hc=>rcases hb with hb | ⟨_,hb⟩<;>simp[D.cells,D.one] at hb
 | cl es ad h hn=>exact one (.cl es ad h hn) rfl rfl
 | cz es ad h=>exact one (.cz es ad h) rfl rfl
 | ref id off len N sz n v hs hN hv h=>obtain ⟨_,_,_,rfl⟩:=hv;exact one (.ref id off len N sz n _ hs hN ⟨_,_,_,rfl⟩ h) rfl rfl
 | ptr id off hs=>exact one (.ptr id off hs) rfl rfl
 | pe cs b off row t fr hF hh hi hp=>exact one (.pe cs b off row t fr hF hh hi hp) rfl rfl
 | ea id i c N sz n v hs hN hv h=>obtain ⟨_,rfl⟩:=hv;exact one (.ea id i c N sz n _ hs hN ⟨_,rfl⟩ h) rfl rfl
 | fn f cap vs hl h=>exact one (.fn f cap vs hl h) rfl rfl
 | np=>exact one .np rfl rfl
 | mv id hs=>exact one (.mv id hs) rfl rfl
 | DI id n sz m k v hs hN hv h=>obtain ⟨_,_,rfl,hx⟩:=hv;exact one (.DI id n sz m k _ hs hN ⟨_,_,rfl,hx⟩ h) rfl rfl
 | M9 id i n sz m k b hs hN hi h=>exact one (.M9 id i n sz m k b hs hN hi h) rfl rfl
 | nr id i len q sz m k v hs hN hv h=>obtain ⟨_,_,rfl⟩:=hv;exact one (.nr id i len q sz m k _ hs hN ⟨_,_,rfl⟩ h) rfl rfl
 | SW v h=>exact one (.SW v h) (by cases v<;>first | rfl | (simp[Value.oneCell'] at h)) rfl
 | bad v=>rcases hb with hb | ⟨_,hb⟩<;>simp[D.cells,D.one] at hb
end
end Go.Am
namespace Go.Am
open Go
section
variable {P:Program} {c:Ctx} {st:St} {a:Act} {w:World} {F:Nat->Prop} {M:Nat->Mb}
theorem l9(off:Nat):∀(l:List Value) (k:Nat) (cells:Array Value),off+k+l.length<=cells.size->
   ((l.zipIdx k).foldl (λ cs q=>cs.setIfInBounds (off+q.2) q.1) cells).toList=cells.toList.take (off+k)++l++cells.toList.drop (off+k+l.length)
 | [],k,cells,_=>by simp
 | v::l,k,cells,h=>by
   simp only[An] at h;simp only[List.zipIdx_cons,Bs];rw[l9 off l (k+1) _ (by simp;omega)];simp only[Array.toList_setIfInBounds,An];have e1:(cells.toList.set (off+k) v).take (off+(k+1))=cells.toList.take (off+k)++[v]:=by
     rw[show off+(k+1)=(off+k)+1 from by omega,BP,BA (by simp;omega),List.take_set_of_le (by omega)];rfl
   have e2:(cells.toList.set (off+k) v).drop (off+(k+1)+l.length)=cells.toList.drop (off+k+(l.length+1)):=by
     rw[List.drop_set_of_lt (by omega)]
     congr 1
     omega
   rw[e1,e2];simp
theorem Pz(hr:Rel c st a w F M)(place:Nat->Option (Nat×Nat)):∀(parts:List (Nat×Operand)) (cs:List D) (vs:Array Value) (cs':List D),KA F w M (sg st.hp) cs vs.toList->
   GZ place cs (parts.map λ q=>(q.1,ev st q.2))=some cs'->∃vs',Instr.fill place vs (parts.map λ q=>(q.1,a.eval q.2))=some vs'/\KA F w M (sg st.hp) cs' vs'.toList
 | [],cs,vs,cs',h,hf=>by
   simp only[BE,GZ,Al] at hf;subst hf;exact ⟨vs,by simp[Instr.fill],h⟩
 | (i,x)::parts,cs,vs,cs',h,hf=>by
   simp only[AH,GZ] at hf;cases hp:place i with
   | none=>rw[hp] at hf;simp at hf
   | some q=>
     obtain ⟨off,size⟩:=q;rw[hp] at hf;simp only at hf;split at hf
     case isFalse=>cases hf
     rename_i hc;obtain ⟨h1,h2,h3⟩:=hc;have hx:=(Co hr x).cells (.inl h3);have FJ:(a.eval x).cells.size=size:=by have:=hx.1;simp at this;omega
     have hvs:vs.size=cs.length:=by have:=h.1;simpa using this
     obtain ⟨vs',h4,h5⟩:=Pz hr place parts _ ((a.eval x).cells.zipIdx.foldl (λ cs q=>cs.setIfInBounds (off+q.2) q.1) vs) cs' (by
       rw[<-Array.foldl_toList,Array.toList_zipIdx,l9 off _ 0 vs (by simp;omega)];simp only[Bu,Array.length_toList,FJ];exact ((h.take off).append hx).append (h.drop (off+size))) hf
     refine ⟨vs',?_,h5⟩;simp only[AH,Instr.fill,hp,FJ];rw[if_neg (by simp;omega)];exact h4
theorem OK:∀(fs:List Field) (pl:List (Nat×Nat)),LJ P (fs.map λ f=>(f.offset,f.type))=some pl->
   fs.mapM (λ f=>(P.info? f.type).map λ i=>(f.offset,i.size))=some pl
 | [],pl,h=>by simp[LJ] at h;subst h;rfl
 | f::fs,pl,h=>by
   simp only[AH,LJ] at h;split at h
   . rename_i ti l h1 h2;obtain ⟨i,u,z,hi,_,_,rfl⟩:=Ch h1;cases h;simp[OK fs l h2,hi]
   . cases h
theorem Acw{z:Value}{zs:List D}(h:Jd z= .agg zs):∃cs,z= .agg cs:=by
 cases z<;>first
   | exact ⟨_,rfl⟩
   | (simp[Jd] at h;done)
   | (rename_i q;cases q<;>simp[Jd] at h;done)
   | (rename_i ad l q;cases ad<;>(try cases l)<;>(try cases q)<;>simp[Jd] at h)
theorem YJ(hr:Rel c st a w F M){t:TypeId}{parts:Array (Nat×Operand)}{k:D->Prop}(h:Vj P st t parts.toList k):
   ∃d v,k d/\DR F w M (sg st.hp) d v/\(Instr.build t (parts.map λ (i,x)=>(i,a.eval x))).run P w= .ok v w:=by
 have Av8:(parts.map λ (i,x)=>(i,a.eval x)).toList=parts.toList.map λ q=>(q.1,a.eval q.2):=by simp
 have key:∀(place:Nat->Option (Nat×Nat)) (z:Value) (zs cs:List D),Jd z= .agg zs->GZ place zs (parts.toList.map λ q=>(q.1,ev st q.2))=some cs->
     ∃vs,Instr.fill place z.cells (parts.map λ (i,x)=>(i,a.eval x)).toList=some vs/\DR F w M (sg st.hp) (.agg cs) (.agg vs):=by
   intro place z zs cs hz hf;obtain ⟨qs,rfl⟩:=Acw hz;have h0:=(KX F w M (sg st.hp) (.agg qs)).cells (.inr ⟨_,hz⟩);rw[hz] at h0;obtain ⟨vs,h1,h2⟩:=Pz hr place parts.toList zs qs cs h0 hf;exact ⟨vs,by rw[Av8];exact h1,.agg _ _ (by simpa using h2.1) (λ i c hc=>by have:=h2.2 i c hc;simpa [List.getD,Array.getD_eq_getD_getElem?] using this)⟩
 unfold Vj at h;split at h
 . rename_i _ _ _ fs zd h1;obtain ⟨i1,u1,z1,Ii,Fq,hz1,e1⟩:=Ch h1;simp only[TI.mk.injEq] at e1;obtain ⟨_,_,e2,rfl⟩:=e1;obtain ⟨gs,rfl,rfl⟩:=Md e2.symm;split at h
   case h_2=>exact h.elim
   rename_i pl zs hpl hz;split at h
   case h_2=>exact h.elim
   rename_i cs hf;obtain ⟨vs,h2,h3⟩:=key _ z1 zs cs hz hf;refine ⟨_,_,h,h3,run_build w t _ vs ?_⟩;unfold Program.built;simp only[Ii,Fq,hz1,OK _ _ hpl]
   simpa using h2
 . rename_i _ _ _ m e zd h1;obtain ⟨i1,u1,z1,Ii,Fq,hz1,e1⟩:=Ch h1;simp only[TI.mk.injEq] at e1;obtain ⟨_,_,e2,rfl⟩:=e1;obtain rfl:=ID e2.symm;split at h
   case h_2=>exact h.elim
   rename_i tj zs OC hz;obtain ⟨i2,u2,z2,Ea,KE,_,rfl⟩:=Ch OC;split at h
   case h_2=>exact h.elim
   rename_i cs hf;obtain ⟨vs,h2,h3⟩:=key _ z1 zs cs hz hf;refine ⟨_,_,h,h3,run_build w t _ vs ?_⟩;unfold Program.built;simp only[Ii,Fq,hz1,Ea,h2]
 . exact h.elim
theorem Pd.TL{kk:KK}{key q:Pd}{d:TypeDesc}(hd:match kk with | .int x=>d= .int x | .str=>d= .string)(hf:kk.fit key=true){b:Bool}(h:Pd.same key q=some b):Instr.sameNow d key.val q.val=some b:=by
 cases kk with
 | int x=>
   simp only at hd;subst hd;cases key<;>simp[KK.fit] at hf;cases q<;>simp[Pd.same] at h;simp only[Pd.val,Instr.sameNow];obtain ⟨h1,h2⟩:=h;rw[if_pos h1,h2]
 | str=>
   simp only at hd;subst hd;cases key<;>simp[KK.fit] at hf;cases q<;>simp[Pd.same] at h;simp only[Pd.val,Instr.sameNow,Al];rw[<-h,Bm];rw[MapKept.bytes_beq];constructor
   . intro h3;have h4:=congrArg (λ z:ByteArray=>z.data.toList) h3
     simpa using h4
   . intro h3;have h4:=eq_of_beq h3;rw[h4]
theorem Pd.Aqr{a b:Pd}(h:Pd.same a b=some true):a.val=b.val:=by
 cases a<;>cases b<;>simp[Pd.same] at h
 . obtain ⟨rfl,rfl⟩:=h;rfl
 . subst h;rfl
theorem Na{kk:KK}{key:Pd}{d:TypeDesc}(hd:match kk with | .int x=>d= .int x | .str=>d= .string)(hf:kk.fit key=true):
   ∀(es:List MapEntry) (l:List (Pd×Pd)) (n:Nat),es.map (λ e=>(e.key,e.val))=l.map (λ p=>(p.1.val,p.2.val))->RC key l->
     (∃v i,Ub key l=some v/\Instr.findNow d key.val es n=some (some (n+i,v.val))/\v∈l.map (·.2)/\(∃e,es[i]?=some e/\e.key=key.val)/\
       ∀x:Pd,(es.modify i λ e=>{e with key:=key.val,val:=x.val}).map (λ e=>(e.key,e.val))=(KZ key x l).map (λ p=>(p.1.val,p.2.val)))∨
     (Ub key l=none/\Instr.findNow d key.val es n=some none/\∀x,KZ key x l=l++[(key,x)])
 | [],[],n,_,_=> .inr ⟨rfl,rfl,λ _=>rfl⟩
 | [],_::_,n,h,_=>by simp at h
 | _::_,[],n,h,_=>by simp at h
 | e::es,(q,v)::l,n,h,hm=>by
   simp only[AH,List.cons.injEq,BV] at h;obtain ⟨⟨h1,h2⟩,h3⟩:=h;unfold RC Mj at hm;cases hs:Pd.same key q with
   | none=>rw[hs] at hm;simp at hm
   | some b=>
     have hn:=Pd.TL hd hf hs;cases b with
     | true=>exact .inl ⟨v,0,by simp[Ub,Mj,hs],by simp[Instr.findNow,h1,hn,h2],by simp,⟨e,rfl,h1.trans (Pd.Aqr hs).symm⟩,λ x=>by simp[KZ,hs,h3]⟩
     | false=>
       rw[hs] at hm;rcases Na hd hf es l (n+1) h3 hm with ⟨v',i,g1,g2,g3,⟨e',g4,g5⟩,g6⟩ | ⟨g1,g2,g3⟩
       . refine .inl ⟨v',i+1,?_,?_,List.mem_cons_of_mem _ g3,⟨e',by simpa using g4,g5⟩,λ x=>by simp[KZ,hs,h1,h2,g6 x]⟩
         . unfold Ub at g1 ⊢;simp only[Mj,hs];exact g1
         . simp only[Instr.findNow,h1,hn,g2];congr 3;omega
       . refine .inr ⟨?_,?_,λ x=>by simp[KZ,hs,g3 x]⟩
         . unfold Ub at g1 ⊢;simp only[Mj,hs];exact g1
         . simp only[Instr.findNow,h1,hn,g2]
theorem LN{t:TypeId}{kk:KK}{z:Pd}(h:mapOf P t=some (kk,z)):∃kt e d i zv,P.underlying t=some (.map kt e)/\P.underlying kt=some d/\(match kk with | .int x=>d= .int x | .str=>d= .string)/\
   P.info? e=some i/\i.zero=some zv/\zv=z.val/\z.flat=true:=by
 unfold mapOf at h;split at h
 case h_2=>cases h
 rename_i kt e hu;have hz:∀{zv:Value} {y:Pd},pdV zv=some y->zv=y.val/\y.flat=true:=by
   intro zv y hy;cases zv<;>simp[pdV] at hy<;>subst hy<;>simp[Pd.val,Pd.flat]
 split at h
 . rename_i q zv hk hi;cases Ea:P.info? e with
   | none=>rw[Ea] at hi;cases hi
   | some i=>
     rw[Ea] at hi;cases hp:pdV zv with
     | none=>rw[hp] at h;cases h
     | some y=>rw[hp] at h;cases h;exact ⟨kt,e,_,i,zv,hu,hk,rfl,Ea,hi,hz hp⟩
 . rename_i zv hk hi;cases Ea:P.info? e with
   | none=>rw[Ea] at hi;cases hi
   | some i=>
     rw[Ea] at hi;cases hp:pdV zv with
     | none=>rw[hp] at h;cases h
     | some y=>rw[hp] at h;cases h;exact ⟨kt,e,_,i,zv,hu,hk,rfl,Ea,hi,hz hp⟩
 . cases h
theorem RF{kk:KK}{key:Pd}{d:TypeDesc}(hd:match kk with | .int x=>d= .int x | .str=>d= .string)(hf:kk.fit key=true):MapKept.IsKey d key.val:=by
 cases kk with
 | int x=>simp only at hd;subst hd;cases key<;>simp[KK.fit] at hf;exact hf
 | str=>simp only at hd;subst hd;cases key<;>simp[KK.fit] at hf;trivial
theorem VT(hr:Rel c st a w F M){t:TypeId}{x i:D}{ok:Bool}{k:D->Prop}(h:Ql P st.hp t x i ok k){vx vi:Value}(hx:DR F w M (sg st.hp) x vx)(hi:DR F w M (sg st.hp) i vi):
   ∃d v,k d/\DR F w M (sg st.hp) d v/\(Instr.lookup t vx vi ok).run P w= .ok v w:=by
 unfold Ql at h;split at h
 case h_2=>exact h.elim
 rename_i _ _ _ kk z id key hm;obtain ⟨kt,e,d,ii,zv,hu,hk,hd,Ea,hz,rfl,hzf⟩:=LN hm;split at h
 case h_2=>exact h.elim
 rename_i l hg;obtain ⟨⟨hf,OC⟩,hkk⟩:=h;obtain ⟨_,⟨es,clock,hb,J8⟩,QA⟩:=hr.heap.obj id _ hg;cases hx with
 | mv _ hs=>
   cases hi with
   | p hi=>
     have hvi:vi=key.val:=by cases hi<;>first | rfl | (cases kk<;>simp[KK.fit] at hf)
     subst hvi;have hc:∀b,(Instr.checkKey b 10000 kt key.val).run P w= .ok () w:=λ b=>MapKept.run_checkKey hk (RF hd hf) b 9999;have hzv:(zeroValue e).run P w= .ok z.val w:=by simp[zeroValue,typeInfo,Ea,hz]
     rcases Na hd hf es.toList l 0 J8 OC with ⟨v,j,g1,g2,g3,_⟩ | ⟨g1,g2,_⟩
     . rw[g1] at hkk;have hvf:v.flat=true:=by obtain ⟨p,hp,rfl⟩:=AU.1 g3;exact QA p hp
       cases ok with
       | true=>
         refine ⟨_,_,hkk,.Dv _ #[v.val,.bool true] rfl (λ j c hj=>?_),?_⟩
         . rcases j with _ | _ | j
           . simp at hj;subst hj;exact .p (PR.flat hvf)
           . simp at hj;subst hj;exact .p (.bool true)
           . simp at hj
         . simp[Instr.lookup,run_underlying hu,MapKept.run_getObj_map hb,hc,MapKept.run_findKey hk g2,Result.andThen]
       | false=>exact ⟨_,v.val,hkk,.p (PR.flat hvf),by simp[Instr.lookup,run_underlying hu,MapKept.run_getObj_map hb,hc,MapKept.run_findKey hk g2,Result.andThen]⟩
     . rw[g1] at hkk;cases ok with
       | true=>
         refine ⟨_,_,hkk,.Dv _ #[z.val,.bool false] rfl (λ j c hj=>?_),?_⟩
         . rcases j with _ | _ | j
           . simp at hj;subst hj;exact .p (PR.flat hzf)
           . simp at hj;subst hj;exact .p (.bool false)
           . simp at hj
         . simp[Instr.lookup,run_underlying hu,MapKept.run_getObj_map hb,hc,MapKept.run_findKey hk g2,hzv,Result.andThen]
       | false=>exact ⟨_,z.val,hkk,.p (PR.flat hzf),by simp[Instr.lookup,run_underlying hu,MapKept.run_getObj_map hb,hc,MapKept.run_findKey hk g2,hzv,Result.andThen]⟩
theorem Wm(hr:Rel c st a w F M){o:Oper}{k:D->Prop}(h:vOp P st o.op k):
   ∃d v,k d/\DR F w M (sg st.hp) d v/\(execOp a.eval o).run P w= .ok (.value v) w:=by
 have wrap:∀(s:Sem Value),(∃d v,k d/\DR F w M (sg st.hp) d v/\s.run P w= .ok v w)->execOp a.eval o=(do pure (.value (<-s)):Sem Next)->
     ∃d v,k d/\DR F w M (sg st.hp) d v/\(execOp a.eval o).run P w= .ok (.value v) w:=by
   rintro s ⟨d,v,h1,h2,h3⟩ e;exact ⟨d,v,h1,h2,by rw[e];simp[h3]⟩
 unfold vOp at h;split at h
 . rename_i x ho;exact ⟨_,_,h,Co hr x,by simp[execOp,ho]⟩
 . rename_i x ho;exact ⟨_,_,h,Co hr x,by simp[execOp,ho]⟩
 . rename_i x y z ho;obtain ⟨d,v,h1,h2,h3⟩:=ZI (P:=P) h (Co hr x) (Co hr y) (Co hr z);exact ⟨d,v,h1,h2,by simp only[execOp,ho];exact h3⟩
 . rename_i op t x y yt ho;exact wrap _ (Aa8 h (Co hr x) (Co hr y) x y) (by simp only[execOp,ho])
 . rename_i op t x ho;exact wrap _ (Aen h (Co hr x)) (by simp only[execOp,ho])
 . rename_i x ho;have hx:=Co hr x;have run:∀{ad},a.eval x= .pointer (some ad)->(execOp a.eval o).run P w= .ok (.value (.pointer (some ad))) w:=by
     intro ad e;simp[execOp,ho,e]
   split at h
   . rename_i id off he;rw[he] at hx;generalize hv:a.eval x=v at hx;cases hx with | ptr _ _ hs=>exact ⟨_,_,h,.ptr id off hs,run hv⟩
   . rename_i cs he;rw[he] at hx;generalize hv:a.eval x=v at hx;cases hx with | pe _ b off row e fr hF hh hi hp=>exact ⟨_,_,h,.pe cs b off row e fr hF hh hi hp,run hv⟩
   . rename_i id i q N he;rw[he] at hx;generalize hv:a.eval x=v at hx;cases hx with
     | ea _ _ _ _ sz n v hs hN Us h2=>
       rw[hs] at h;obtain ⟨hv3,Cv⟩:=h2 h.1;subst hv3;exact ⟨_,_,h.2,.ea id i q N sz n _ hs hN Us h2,run hv⟩
   . exact h.elim
 . rename_i s d x ho;exact wrap _ (y9 h (Co hr x)) (by simp only[execOp,ho])
 . rename_i t parts ho;exact wrap _ (YJ hr h) (by simp only[execOp,ho])
 . rename_i t x ho;exact wrap _ (Su hr.heap h (Co hr x)) (by simp only[execOp,ho])
 . rename_i t x lo hi mx ho;exact wrap _ (XP hr h (Co hr x)) (by simp only[execOp,ho])
 . rename_i t x f ho;exact wrap _ (RS h (Co hr x)) (by simp only[execOp,ho])
 . rename_i t x f ho;exact wrap _ (Yu h (Co hr x)) (by simp only[execOp,ho])
 . rename_i t x i ho;exact wrap _ (RG h (Co hr x) (Co hr i)) (by simp only[execOp,ho])
 . rename_i t x i ho;exact wrap _ (Yf h (Co hr x) (Co hr i)) (by simp only[execOp,ho])
 . rename_i t i ho;exact wrap _ (UU h (Co hr t)) (by simp only[execOp,ho])
 . rename_i t x i ok ho;exact wrap _ (VT hr h (Co hr x) (Co hr i)) (by simp only[execOp,ho])
 . rename_i f first cap ho
   obtain ⟨h0,h⟩:=h;have hf:first=#[]:=Array.eq_empty_of_size_eq_zero h0
   subst hf;refine ⟨_,.func (.func f) #[] (cap.map a.eval),h,.fn f _ _ (by simp) (λ i c hc=>?_),by simp[execOp,ho,Instr.makeFunc]⟩;rw[AS] at hc;cases hq:cap.toList[i]? with
   | none=>rw[hq] at hc;cases hc
   | some q=>
     rw[hq] at hc;cases hc;have:=Co hr q;have Y2:cap[i]?=some q:=by simpa using hq
     simpa [Array.getD_eq_getD_getElem?,Y2] using this
 . exact h.elim
end
end Go.Am
namespace Go.Am
open Go
theorem CU{α:Type}(x:α):∀(h:List (Nat×α)) (id j:Nat),get (Cz h id x) j=if j=id then some x else get h j
 | [],id,j=>by simp only[Cz,get];by_cases e:id=j<;>simp[e,eq_comm]
 | (k,y)::r,id,j=>by
   have ih:=CU x r id j;simp only[Cz];by_cases e:k=id
   . subst e;simp only[AP,get];by_cases e2:k=j
     . simp[e2]
     . simp[e2,Bc e2]
   . simp only[e,Bb,get,ih];by_cases e2:k=j
     . subst e2;simp[e]
     . simp[e2]
section
variable {P:Program} {c:Ctx} {st:St} {a:Act} {w:World} {F:Nat->Prop} {M:Nat->Mb}
theorem Rel.change(hr:Rel c st a w F M){id:Nat}{o':AO}{w':World}{M':Nat->Mb}{hp':Hp}
   (Cx:∀j,get hp' j=if j=id then some o' else get st.hp j) (hM:∀j,j≠id->M' j=M j) (G7:C1 M M' (sg st.hp) (sg hp'))
   (hos:w'.os=w.os) (Ut:w'.tape=w.tape) (V0:w'.output=w.output) (GH:w.heap.size<=w'.heap.size)
   (hold:∀b,b<w.heap.size->(∀o,get st.hp id=some o->¬o.Gz (M id) b)->w'.heap[b]?=w.heap[b]?)
   (Nl:Wg F w' M' (sg hp') (M' id) o')
   (Pv:∀b,o'.Gz (M' id) b->(∃o,get st.hp id=some o/\o.Gz (M id) b)∨w.heap.size<=b):
   Rel c {st with hp:=hp'} a w' F M':=by
 have hF:∀b,F b->w'.heap[b]?=w.heap[b]?:=λ b hb=>hold b (hr.CW.Fl b hb) (λ o ho CT=>hr.heap.JL ⟨id,o,ho,CT⟩ hb);have Av9:∀j o b,j≠id->get st.hp j=some o->o.Gz (M j) b->w'.heap[b]?=w.heap[b]?:=λ j o b hj ho CT=>
   hold _ (hr.heap.lt ⟨j,o,ho,CT⟩) (λ o2 VB Adr=>hj (hr.heap.inj j o id o2 b ho VB CT Adr))
 have Dt:∀j o b,j≠id->get st.hp j=some o->o.Gz (M j) b->¬o'.Gz (M' id) b:=λ j o b hj ho CT N7=>by
   rcases Pv b N7 with ⟨o2,h1,h2⟩ | h1
   . exact hj (hr.heap.inj j o id o2 b ho h1 CT h2)
   . have:=hr.heap.lt ⟨j,o,ho,CT⟩;omega
 constructor
 . intro t d ht;exact (hr.env t d ht).CW hF (λ _ h=>h) G7
 . exact hr.size
 . exact hr.defers
 . constructor
   . intro j o hj;rw[Cx] at hj;by_cases e:j=id
     . subst e;simp only[AP,Al] at hj;subst hj;exact Nl
     . rw[if_neg e] at hj;rw[hM j e];exact (hr.heap.obj j o hj).CW hF (λ _ h=>h) G7 (λ b CT=>⟨Av9 j o b e hj CT,hr.heap.JL ⟨j,o,hj,CT⟩⟩)
   . intro j o j' o2 b hj Hu CT Ez;rw[Cx] at hj Hu;by_cases e:j=id
     . by_cases e':j'=id
       . rw[e,e']
       . subst e;rw[if_neg e'] at Hu;simp only[AP,Al] at hj;subst hj;rw[hM j' e'] at Ez;exact (Dt j' o2 b e' Hu Ez CT).elim
     . rw[if_neg e] at hj;rw[hM j e] at CT;by_cases e':j'=id
       . subst e';simp only[AP,Al] at Hu;subst Hu;exact (Dt j o b e hj CT Ez).elim
       . rw[if_neg e'] at Hu;rw[hM j' e'] at Ez;exact hr.heap.inj j o j' o2 b hj Hu CT Ez
 . have hk:=hr.CW;refine ⟨hos.trans hk.os,Ut.trans hk.tape,V0.trans hk.output,Bp hk.size GH,λ b hb hO=>?_,hk.F0,hk.Fn,λ b hb=>Nat.lt_of_lt_of_le (hk.Fl b hb) GH,?_,hk.XQ.trans G7,hk.s0b⟩
   . rw[hold b (Nat.lt_of_lt_of_le hb hk.size) (λ o ho CT=>?_)]
     . exact hk.N2 b hb hO
     . rcases hk.own _ ⟨id,o,ho,CT⟩ with h1 | h1
       . exact hO h1
       . omega
   . rintro b ⟨j,o,hj,CT⟩;rw[Cx] at hj;by_cases e:j=id
     . subst e;simp only[AP,Al] at hj;subst hj;rcases Pv b CT with ⟨o2,h1,h2⟩ | h1
       . exact hk.own _ ⟨j,o2,h1,h2⟩
       . right;have:=hk.size;omega
     . rw[if_neg e] at hj;rw[hM j e] at CT;exact hk.own _ ⟨j,o,hj,CT⟩
theorem C9{hp hp':Hp}{id:Nat}{o':AO}(Cx:∀j,get hp' j=if j=id then some o' else get hp j)(j:Nat):
   sg hp' j=if j=id then some o'.sg else sg hp j:=by
 unfold sg;rw[Cx];by_cases e:j=id<;>simp[e]
theorem G4{M M':Nat->Mb}{hp hp':Hp}{id:Nat}{o':AO}(Cx:∀j,get hp' j=if j=id then some o' else get hp j)(hM:∀j,j≠id->M' j=M j)
   (hn:get hp id=none):C1 M M' (sg hp) (sg hp'):=by
 have hn':sg hp id=none:=by simp[sg,hn]
 refine ⟨λ j hj=>?_,λ j sz n hj=>?_,λ j sz n k hj=>?_⟩
 . have e:j≠id:=λ e=>by rw[e,hn'] at hj;cases hj
   rw[C9 Cx,if_neg e,hM j e];exact ⟨hj,rfl⟩
 . have e:j≠id:=λ e=>by rw[e,hn'] at hj;cases hj
   rw[C9 Cx,if_neg e,hM j e];exact ⟨n,hj,Ai _,λ _=>rfl⟩
 . have e:j≠id:=λ e=>by rw[e,hn'] at hj;cases hj
   rw[C9 Cx,if_neg e,hM j e];exact ⟨n,k,hj,Ai _,Ai _,λ _=>⟨rfl,rfl⟩,λ _=>rfl⟩
theorem DJ{hp hp':Hp}{id:Nat}{o o':AO}(Cx:∀j,get hp' j=if j=id then some o' else get hp j)
   (ho:get hp id=some o) (hs:o'.sg=o.sg):sg hp'=sg hp:=by
 funext j
 rw[C9 Cx];by_cases e:j=id
 . subst e;simp[sg,ho,hs]
 . simp[e]
theorem Rel.freeze(hr:Rel c st a w F M){id sz:Nat}{t:TypeId}{es:List (List Pd)}(ho:get st.hp id=some (.arr t sz es)):
   Rel c {st with hp:=froze st.hp id} a w (λ b=>F b∨((M id).cap≠0/\b=(M id).DQ)) M:=by
 have hf:froze st.hp id=Cz st.hp id (.Nw sz es):=by simp[froze,ho]
 have Cx:∀j,get (froze st.hp id) j=if j=id then some (.Nw sz es) else get st.hp j:=λ j=>by rw[hf,CU]
 have G7:sg (froze st.hp id)=sg st.hp:=DJ Cx ho rfl;have Hk:C1 M M (sg st.hp) (sg (froze st.hp id)):=by rw[G7];exact C1.refl _ _
 have IP:∀b,F b->(F b∨((M id).cap≠0/\b=(M id).DQ)):=λ b h=> .inl h;constructor
 . intro q d hq;exact (hr.env q d hq).CW (λ _ _=>rfl) IP Hk
 . exact hr.size
 . exact hr.defers
 . constructor
   . intro j o hj;rw[Cx] at hj;by_cases e:j=id
     . subst e;simp only[AP,Al] at hj;subst hj;obtain ⟨h1,h2,_,h3,h4⟩:=hr.heap.obj j _ ho;refine ⟨h1,h2,h3,λ hc=>?_⟩;obtain ⟨_,row,h6,h7,h8⟩:=h4 hc;exact ⟨.inr ⟨hc,rfl⟩,row,t,h6.choose,h6.choose_spec.1,h7,λ i e q x he hx=>(h8 i e q x he hx).CW (λ _ _=>rfl) IP⟩
     . rw[if_neg e] at hj;refine (hr.heap.obj j o hj).CW (λ _ _=>rfl) IP Hk (λ b CT=>⟨rfl,?_⟩);rintro (h | ⟨hc,he⟩)
       . exact hr.heap.JL ⟨j,o,hj,CT⟩ h
       . exact e (hr.heap.inj j o id _ b hj ho CT ⟨hc,he⟩)
   . intro j o j' o2 b hj Hu CT Ez;rw[Cx] at hj Hu;by_cases e:j=id
     . rw[if_pos e] at hj;cases hj;exact CT.elim
     . by_cases e':j'=id
       . rw[if_pos e'] at Hu;cases Hu;exact Ez.elim
       . rw[if_neg e] at hj;rw[if_neg e'] at Hu;exact hr.heap.inj j o j' o2 b hj Hu CT Ez
 . have hk:=hr.CW;refine ⟨hk.os,hk.tape,hk.output,hk.size,hk.N2,λ b h=> .inl (hk.F0 b h),?_,?_,?_,hk.XQ.trans Hk,hk.s0b⟩
   . rintro b (h | ⟨hc,rfl⟩)
     . exact hk.Fn b h
     . rcases hk.own _ ⟨id,_,ho,hc,rfl⟩ with h1 | h1
       . exact .inr (.inl h1)
       . exact .inr (.inr h1)
   . rintro b (h | ⟨hc,rfl⟩)
     . exact hk.Fl b h
     . exact hr.heap.lt ⟨id,_,ho,hc,rfl⟩
   . rintro b ⟨j,o,hj,CT⟩;rw[Cx] at hj;by_cases e:j=id
     . rw[if_pos e] at hj;cases hj;exact CT.elim
     . rw[if_neg e] at hj;exact hk.own _ ⟨j,o,hj,CT⟩
theorem Vu.pure{F F':Nat->Prop}{w:World}{m:Mb}{t:TypeId}{sz:Nat}{es:List (List Pd)}(h:Vu F w m t sz es)(hF:∀b,F b->F' b)(hb:m.cap≠0->F' m.DQ){ad:Option Addr}
   (ha:m.cap=0∨ad=some ⟨m.DQ,0,none⟩):PR F' w (.sl es) (.slice ad es.length m.cap):=by
 obtain ⟨h1,h2,_,h3,h4⟩:=h;by_cases h0:es=[]
 . subst h0;exact .Zq ad m.cap
 . have FC:0<es.length:=List.length_pos_iff.2 h0;have hc:m.cap≠0:=by omega
   obtain ⟨_,row,h6,h7,h8⟩:=h4 hc;obtain rfl:=ha.resolve_left hc;refine .sl es m.DQ 0 m.cap sz row t h6.choose (hb hc) h6.choose_spec.1 h2 h3 (λ i e j c he hj=>?_) (λ i e j c he hj=>by rw[Bf];exact (h8 i e j c he hj).CW (λ _ _=>rfl) hF);rw[h7,Bf];exact II (Ao.1 he).1 h2 (by have:=h3 i e he;have:=(Ao.1 hj).1;omega)
theorem Rel.As3(hr:Rel c st a w F M){id sz k:Nat}{t e:TypeId}{rows:List (List (List Pd))}(ho:get st.hp id=some (.DF t e sz k rows none)):
   Rel c {st with hp:=Cz st.hp id (.Fv (I7 (.DF sz rows.length k)))} a w (λ b=>F b∨DU (M id) b) M:=by
 have Cx:∀j,get (Cz st.hp id (.Fv (I7 (.DF sz rows.length k)))) j=if j=id then some (.Fv (I7 (.DF sz rows.length k))) else get st.hp j:=CU _ _ _
 have G7:sg (Cz st.hp id (.Fv (I7 (.DF sz rows.length k))))=sg st.hp:=DJ Cx ho rfl;have Hk:C1 M M (sg st.hp) (sg (Cz st.hp id (.Fv (I7 (.DF sz rows.length k))))):=by rw[G7];exact C1.refl _ _
 have IP:∀b,F b->(F b∨DU (M id) b):=λ b h=> .inl h;constructor
 . intro q d hq;exact (hr.env q d hq).CW (λ _ _=>rfl) IP Hk
 . exact hr.size
 . exact hr.defers
 . constructor
   . intro j o hj;rw[Cx] at hj;by_cases e:j=id
     . rw[if_pos e] at hj;cases hj;trivial
     . rw[if_neg e] at hj;refine (hr.heap.obj j o hj).CW (λ _ _=>rfl) IP Hk (λ b CT=>⟨rfl,?_⟩);rintro (h | h)
       . exact hr.heap.JL ⟨j,o,hj,CT⟩ h
       . exact e (hr.heap.inj j o id _ b hj ho CT h)
   . intro j o j' o2 b hj Hu CT Ez;rw[Cx] at hj Hu;by_cases e:j=id
     . rw[if_pos e] at hj;cases hj;exact CT.elim
     . by_cases e':j'=id
       . rw[if_pos e'] at Hu;cases Hu;exact Ez.elim
       . rw[if_neg e] at hj;rw[if_neg e'] at Hu;exact hr.heap.inj j o j' o2 b hj Hu CT Ez
 . have hk:=hr.CW;refine ⟨hk.os,hk.tape,hk.output,hk.size,hk.N2,λ b h=> .inl (hk.F0 b h),?_,?_,?_,hk.XQ.trans Hk,hk.s0b⟩
   . rintro b (h | h)
     . exact hk.Fn b h
     . rcases hk.own _ ⟨id,_,ho,h⟩ with h1 | h1
       . exact .inr (.inl h1)
       . exact .inr (.inr h1)
   . rintro b (h | h)
     . exact hk.Fl b h
     . exact hr.heap.lt ⟨id,_,ho,h⟩
   . rintro b ⟨j,o,hj,CT⟩;rw[Cx] at hj;by_cases e:j=id
     . rw[if_pos e] at hj;cases hj;exact CT.elim
     . rw[if_neg e] at hj;exact hk.own _ ⟨j,o,hj,CT⟩
theorem P2(hr:HR F w M st.hp){id sz k:Nat}{t e:TypeId}{rows:List (List (List Pd))}{v:Value}(ho:get st.hp id=some (.DF t e sz k rows none))(h:Sk (M id) 1 rows.length 0 rows.length v):
   PR (λ b=>F b∨DU (M id) b) w (.sl (rows.map λ r=>[.sl r])) v:=by
 have hn:Ie F w (M id) t e sz rows none:=hr.obj id _ ho;obtain ⟨ad,cap,rfl,h1,h2,h3,h4⟩:=h;by_cases h0:rows=[]
 . subst h0;exact .Zq ad cap
 . have FC:0<rows.length:=List.length_pos_iff.2 h0;have hc:(M id).cap≠0:=by have:=hn.le;omega
   obtain ⟨_,row,h6,h7,h8⟩:=hn.outer hc;have Mx:cap≠0:=by omega
   obtain rfl:=h4.resolve_left Mx;rw[show rows.length=(rows.map λ r=>([.sl r]:List Pd)).length by simp];refine .sl _ (M id).DQ (0*1) cap 1 row t (0,0) (.inr (.inl ⟨hc,rfl⟩)) h6 (by simp;omega) (λ i x hx=>?_) (λ i x j y hx hy=>?_) (λ i x j y hx hy=>?_)
   . rw[AS] at hx;cases HM:rows[i]? with
     | none=>rw[HM] at hx;cases hx
     | some r=>rw[HM] at hx;cases hx;rfl
   . rw[AS] at hx;cases HM:rows[i]? with
     | none=>rw[HM] at hx;cases hx
     | some r=>
       rw[HM] at hx;cases hx;have hi:=(Ao.1 HM).1;have hj:=(Ao.1 hy).1;have:=hn.le;simp at hj;omega
   . rw[AS] at hx;cases HM:rows[i]? with
     | none=>rw[HM] at hx;cases hx
     | some r=>
       rw[HM] at hx;cases hx;have hi:=(Ao.1 HM).1;have hix:i<(M id).xs.length:=by rw[hn.xl];exact hi
       have hib:(M id).xs[i]?=some ((M id).xs[i]):=Az hix;obtain ⟨a2,g1,g2⟩:=h8 i r _ HM hib (by simp);rcases j with _ | j
       . simp at hy;subst hy;simp only[Nat.zero_mul,Nat.mul_one,Bf,Bu];rw[g1];exact (hn.rows i r _ HM hib (by simp)).pure (λ b h=> .inl h) (λ VD=> .inr (.inr ⟨i,_,hib,VD,rfl⟩)) g2
       . simp at hy
theorem Kg(hr:HR F w M st.hp){id off len sz n:Nat}{es:List (List Pd)}{v:Value}(hg:(∃t,get st.hp id=some (.arr t sz es))∨get st.hp id=some (.Nw sz es))
   (hn:n=es.length) (h:Sk (M id) sz n off len v) {F':Nat->Prop} (hF:∀b,F b->F' b) (hb:(M id).cap≠0->F' (M id).DQ):PR F' w (.sl ((es.drop off).take len)) v:=by
 subst hn;obtain ⟨ad,cap,rfl,h1,h2,h3,h4⟩:=h;obtain ⟨h5,h6,h7,h8⟩:=hr.row hg;have hlen:((es.drop off).take len).length=len:=by simp;omega
 by_cases h0:len=0
 . subst h0;have:(es.drop off).take 0=[]:=by simp
   rw[this];exact .Zq _ _
 . have h9:=h4.resolve_left (by omega);subst h9;obtain ⟨row,t,fr,LX,h11,QE⟩:=h8 (by omega);have Cx:∀(i:Nat) e,((es.drop off).take len)[i]?=some e->es[off+i]?=some e:=λ i e he=>by
     rw[AI] at he;split at he
     . rwa[AR] at he
     . cases he
   have key:=PR.sl (F:=F') (w:=w) ((es.drop off).take len) (M id).DQ (off*sz) cap sz row t fr (hb (by omega)) LX (by omega) (λ i e he=>h7 _ e (Cx i e he)) (λ i e j x he hx=>by
     have h13:=h7 _ e (Cx i e he);have h14:=(Ao.1 hx).1;have h15:=(Ao.1 (Cx i e he)).1;have:=II (j:=j) (sz:=sz) h15 h6 (by omega);rw[A2] at this;omega) (λ i e j x he hx=>by
     have:=QE _ e j x (Cx i e he) hx;rw[A2] at this;exact this.CW (λ _ _=>rfl) hF)
   rw[hlen] at key;exact key
theorem LI(hr:Rel c st a w F M){d:D}{v:Value}(hd:DR F w M (sg st.hp) d v){k:Pd->Hp->Prop}(h:KW st.hp d k):
   ∃x h' F',k x h'/\Rel c {st with hp:=h'} a w F' M/\(∀b,F b->F' b)/\sg h'=sg st.hp/\PR F' w x v:=by
 unfold KW at h;cases d with
 | p x=>cases hd with | p hx=>exact ⟨x,st.hp,F,h,hr,λ _ h=>h,rfl,hx⟩
 | cl es=>cases hd with | cl _ ad hx _=>exact ⟨_,st.hp,F,h,hr,λ _ h=>h,rfl,hx⟩
 | cz es=>cases hd with | cz _ ad hx=>exact ⟨_,st.hp,F,h,hr,λ _ h=>h,rfl,hx⟩
 | ref id off len N=>
   simp only at h;cases hd with
   | ref _ _ _ _ sz n v hs hN hv h2=>
     cases ho:get st.hp id with
     | none=>rw[ho] at h;exact h.elim
     | some o=>
       rw[ho] at h;cases o with
       | box cs ty=>exact h.elim
       | iter _ _=>exact h.elim
       | Gi _ _=>exact h.elim
       | Fv _=>exact h.elim
       | mp _=>exact h.elim
       | DF _ _ _ _ _ _=>exact h.elim
       | arr t Sc es=>
         obtain ⟨rfl,hk⟩:=h;have G7:=CY ho;rw[G7] at hs;simp only[AO.sg,Al,Sg.arr.injEq] at hs;obtain ⟨rfl,rfl⟩:=hs;have Cx:∀j,get (froze st.hp id) j=if j=id then some (.Nw Sc es) else get st.hp j:=λ j=>by simp[froze,ho,CU]
         exact ⟨_,_,_,hk,hr.freeze ho,λ b h=> .inl h,DJ Cx ho rfl,Kg hr.heap (.inl ⟨t,ho⟩) rfl (h2 rfl) (λ b h=> .inl h) (λ hc=> .inr ⟨hc,rfl⟩)⟩
       | Nw Sc es=>
         obtain ⟨rfl,hk⟩:=h;have G7:=CY ho;rw[G7] at hs;simp only[AO.sg,Al,Sg.arr.injEq] at hs;obtain ⟨rfl,rfl⟩:=hs;have hob:=hr.heap.obj id _ ho;exact ⟨_,st.hp,F,hk,hr,λ b h=>h,rfl,Kg hr.heap (.inr ho) rfl (h2 rfl) (λ b h=>h) (λ hc=>(hob.2.2.2 hc).1)⟩
 | DI id n=>
   simp only at h;split at h
   case h_2=>exact h.elim
   rename_i t e sz kk rows ho;obtain ⟨rfl,hk⟩:=h;cases hd with
   | DI _ _ Sb m k2 _ hs hN hv h2=>
     have Pm:=CY ho;rw[hs] at Pm;simp only[AO.sg,Al,Sg.DF.injEq] at Pm;obtain ⟨rfl,rfl,rfl⟩:=Pm;exact ⟨_,_,_,hk,hr.As3 ho,λ b h=> .inl h,DJ (CU _ _ _) ho rfl,P2 hr.heap ho (h2 rfl)⟩
 | _=>exact h.elim
theorem MY:∀(ds:List D) {st:St} {F:Nat->Prop} (vs:List Value),Rel c st a w F M->KA F w M (sg st.hp) ds vs->∀{k:List Pd->Hp->Prop},HP st.hp ds k->
   ∃xs h' F',k xs h'/\Rel c {st with hp:=h'} a w F' M/\(∀b,F b->F' b)/\sg h'=sg st.hp/\xs.length=vs.length/\∀(i:Nat) x,xs[i]?=some x->PR F' w x (vs.getD i undef)
 | [],st,F,vs,hr,hd,k,h=>⟨[],st.hp,F,h,hr,λ _ h=>h,rfl,by have:=hd.1;simpa using this.symm,λ i x hx=>by simp at hx⟩
 | d::ds,st,F,vs,hr,hd,k,h=>by
   cases vs with
   | nil=>have:=hd.1;simp at this
   | cons v vs=>
     simp only[HP] at h;have hd0:DR F w M (sg st.hp) d v:=by simpa [List.getD] using hd.2 0 d rfl
     obtain ⟨x,h1,F1,hk,HJ,hF1,Lw,hx⟩:=LI hr hd0 h;have OD:KA F1 w M (sg h1) ds vs:=by
       refine ⟨by have:=hd.1;simpa using this,λ i e he=>?_⟩;have:=hd.2 (i+1) e (by simpa using he);rw[Lw];have h3:DR F w M (sg st.hp) e (vs.getD i undef):=by simpa [List.getD] using this
       exact h3.CW (λ _ _=>rfl) hF1 (C1.refl _ _)
     obtain ⟨xs,h2,F2,IF,HM,hF2,Pm,Uz,HT⟩:=MY ds (st:={st with hp:=h1}) vs HJ OD hk;refine ⟨x::xs,h2,F2,IF,HM,λ b hb=>hF2 b (hF1 b hb),Pm.trans Lw,by simp[Uz],λ i y hy=>?_⟩;cases i with
     | zero=>simp only[List.getElem?_cons_zero,Option.some.injEq] at hy;subst hy;simpa [List.getD] using hx.CW (λ _ _=>rfl) hF2
     | succ i=>simp only[List.getElem?_cons_succ] at hy;simpa [List.getD] using HT i y hy
end
end Go.Am
namespace Go.Am
open Go
section
variable {P:Program} {c:Ctx} {st:St} {a:Act} {w:World} {F:Nat->Prop} {M:Nat->Mb}
theorem alloc_old(w:World)(o:Obj)(b:Nat)(h:b<w.heap.size):(w.alloc o).heap[b]?=w.heap[b]?:=by
 show (w.heap.push o)[b]?=_
 rw[Array.getElem?_push,if_neg (by omega)]
theorem DR.Jc{s:Nat->Option Sg}{d:D}{v:Value}(h:DR F w M s d v)(h1:d.one=true):v.oneCell'=true:=by
 cases h with
 | p h=>exact h.Jc
 | agg _ _ _ _=>simp[D.one] at h1
 | Dv _ _ _ _=>simp[D.one] at h1
 | cl _ _ _ _=>rfl
 | cz _ _ _=>rfl
 | ref _ _ _ _ _ _ _ _ _ hv _=>obtain ⟨_,_,_,rfl⟩:=hv;rfl
 | ptr _ _ _=>rfl
 | np=>rfl
 | mv _ _=>rfl
 | DI _ _ _ _ _ _ _ _ hv _=>obtain ⟨_,_,rfl,_⟩:=hv;rfl
 | M9 _ _ _ _ _ _ _ _ _ _ _=>rfl
 | nr _ _ _ _ _ _ _ _ _ _ hv _=>obtain ⟨_,_,rfl⟩:=hv;rfl
 | pe _ _ _ _ _ _ _ _ _ _=>rfl
 | ea _ _ _ _ _ _ _ _ _ hv _=>obtain ⟨_,rfl⟩:=hv;rfl
 | fn _ _ _ _ _=>rfl
 | SW _ h=>exact h
 | bad _=>simp[D.one] at h1
theorem KA.CW{F':Nat->Prop}{w':World}{M':Nat->Mb}{s s':Nat->Option Sg}{cs:List D}{vs:List Value}(h:KA F w M s cs vs)
   (hw:∀b,F b->w'.heap[b]?=w.heap[b]?) (hF:∀b,F b->F' b) (hs:C1 M M' s s'):KA F' w' M' s' cs vs:=
 ⟨h.1,λ i c hc=>(h.2 i c hc).CW hw hF hs⟩
def FU(M:Nat->Mb)(q:Nat)(m:Mb):Nat->Mb:=λ j=>if j=q then m else M j
theorem LZ(h:Hp)(q:Nat)(o:AO)(j:Nat):get ((q,o)::h) j=if j=q then some o else get h j:=by
 rw[Cw];by_cases e:j=q
 . simp[e]
 . rw[if_neg e,if_neg (Bc e)]
theorem Rel.Alc(hr:Rel c st a w F M){q:Nat}{cs:List D}{vs:Array Value}(t ty:TypeId)(hty:SX ty t=t)(hn:get st.hp q=none)(hd:KA F w M (sg st.hp) cs vs.toList)(h1:cs.all D.one=true)(hx:Exa ty cs vs):
   Rel c {st with hp:=(q,.box cs ty)::st.hp} a (w.alloc (.cells vs t)) F (FU M q ⟨w.heap.size,0,[]⟩)/\
   DR F (w.alloc (.cells vs t)) (FU M q ⟨w.heap.size,0,[]⟩) (sg ((q,.box cs ty)::st.hp)) (.ptr q 0) (.pointer (some ⟨w.heap.size,0,none⟩)):=by
 have Cx:=LZ st.hp q (.box cs ty);have hM:∀j,j≠q->FU M q ⟨w.heap.size,0,[]⟩ j=M j:=λ j hj=>by simp[FU,hj]
 have J9:FU M q ⟨w.heap.size,0,[]⟩ q=⟨w.heap.size,0,[]⟩:=by simp[FU]
 have Hk:=G4 Cx hM hn;have hold:∀b,b<w.heap.size->(w.alloc (.cells vs t)).heap[b]?=w.heap[b]?:=λ b hb=>alloc_old w _ b hb;refine ⟨hr.change Cx hM Hk rfl rfl rfl (by simp) (λ b hb _=>hold b hb) ?_ (λ b hb=> .inr (by have:b=_:=hb;rw[this,J9];exact Ai _)),?_⟩
 . rw[J9];refine ⟨λ hF=>Nat.lt_irrefl _ (hr.CW.Fl _ hF),vs,t,by rw[hty];exact heap_alloc_new w _,by have:=hd.1;simpa using this,λ j d hj=>?_,hx⟩;have h2:=hd.2 j d hj;have h3:vs.toList.getD j undef=vs.getD j undef:=by simp[List.getD,At]
   rw[h3] at h2;exact ⟨h2.CW (λ b hb=>hold b (hr.CW.Fl b hb)) (λ _ h=>h) Hk,h2.Jc (AB.1 h1 d (AQ hj))⟩
 . have:=DR.ptr (F:=F) (w:=w.alloc (.cells vs t)) (M:=FU M q ⟨w.heap.size,0,[]⟩) (s:=sg ((q,.box cs ty)::st.hp)) q 0 (by rw[C9 Cx];simp[AO.sg]);rwa[J9] at this
theorem JD{t:TypeId}{i:TypeInfo}{z:Value}(hi:P.info? t=some i)(hz:i.zero=some z)(w:World):(zeroValue t).run P w= .ok z w:=by
 simp[zeroValue,typeInfo,hi,hz]
theorem Ly{s:Nat->Option Sg}{d:D}{v:Value}(h:DR F w M s d v){cs:List D}(hs:d.stored=some cs):cs=d.cells/\cs.all D.one=true/\KA F w M s cs v.cells.toList:=by
 unfold D.stored at hs;split at hs
 . rename_i h1;cases hs;exact ⟨rfl,h1,h.cells (.inl h1)⟩
 . cases hs
theorem Rel.Adi(hr:Rel c st a w F M){q cap sz:Nat}{es:List (List Pd)}{vs:Array Value}{e:TypeId}{w':World}(hn:get st.hp q=none)
   (hw:Q2 w' w.heap.size e vs) (hws:w'.heap.size=w.heap.size+1) (hold:∀b,b<w.heap.size->w'.heap[b]?=w.heap[b]?) (hos:w'.os=w.os) (Ut:w'.tape=w.tape) (V0:w'.output=w.output)
   (FJ:0<sz) (hc:es.length<=cap) (hm:cap<=maxLen) (hl:∀(i:Nat) x,es[i]?=some x->x.length=sz) (hv:vs.size=cap*sz)
   (hp:∀(i:Nat) x (j:Nat) y,es[i]?=some x->x[j]?=some y->PR F w y (vs.getD (i*sz+j) undef)):
   Rel c {st with hp:=(q,.arr e sz es)::st.hp} a w' F (FU M q ⟨w.heap.size,cap,[]⟩)/\
   DR F w' (FU M q ⟨w.heap.size,cap,[]⟩) (sg ((q,.arr e sz es)::st.hp)) (.ref q 0 es.length es.length) (.slice (some ⟨w.heap.size,0,none⟩) es.length cap):=by
 have Cx:=LZ st.hp q (.arr e sz es);have hM:∀j,j≠q->FU M q ⟨w.heap.size,cap,[]⟩ j=M j:=λ j hj=>by simp[FU,hj]
 have J9:FU M q ⟨w.heap.size,cap,[]⟩ q=⟨w.heap.size,cap,[]⟩:=by simp[FU]
 have Hk:=G4 Cx hM hn;have hs:sg ((q,.arr e sz es)::st.hp) q=some (.arr sz es.length):=by rw[C9 Cx];simp[AO.sg]
 refine ⟨hr.change Cx hM Hk hos Ut V0 (by rw[hws];exact Nat.le_succ _) (λ b hb _=>hold b hb) ?_ (λ b hb=> .inr (by have:b=_:=hb.2;rw[this,J9];exact Ai _)),?_⟩
 . rw[J9];refine ⟨FJ,hc,hm,hl,λ _=>⟨λ hF=>Nat.lt_irrefl _ (hr.CW.Fl _ hF),vs,hw,hv,λ i x j y hx hy=>?_⟩⟩;exact (hp i x j y hx hy).CW (λ b hb=>hold b (hr.CW.Fl b hb)) (λ _ h=>h)
 . refine .ref q 0 es.length es.length sz es.length _ hs (Ai _) ⟨_,_,_,rfl⟩ (λ _=>⟨_,cap,rfl,by omega,hc,by rw[J9];exact Bf _,.inr (by rw[J9];simp)⟩)
theorem Rel.T7(hr:Rel c st a w F M){q cap sz:Nat}{es:List (List Pd)}{vs:Array Value}{e:TypeId}{w':World}(hn:get st.hp q=none)
   (hw:w'.heap=(w.alloc (.cells vs e)).heap) (hos:w'.os=w.os) (Ut:w'.tape=w.tape) (V0:w'.output=w.output)
   (FJ:0<sz) (hc:es.length<=cap) (hm:cap<=maxLen) (hl:∀(i:Nat) x,es[i]?=some x->x.length=sz) (hv:vs.size=cap*sz)
   (hp:∀(i:Nat) x (j:Nat) y,es[i]?=some x->x[j]?=some y->PR F w y (vs.getD (i*sz+j) undef)):
   Rel c {st with hp:=(q,.arr e sz es)::st.hp} a w' F (FU M q ⟨w.heap.size,cap,[]⟩)/\
   DR F w' (FU M q ⟨w.heap.size,cap,[]⟩) (sg ((q,.arr e sz es)::st.hp)) (.ref q 0 es.length es.length) (.slice (some ⟨w.heap.size,0,none⟩) es.length cap):=
 hr.Adi hn (.of0 (by rw[hw];exact heap_alloc_new w _)) (by rw[hw];simp) (λ b hb=>by rw[hw];exact alloc_old w _ b hb) hos Ut V0 FJ hc hm hl hv hp
theorem Jf{α:Type}(sz:Nat):∀(n:Nat) (l:List α),(chunk sz n l).length=n
 | 0,_=>rfl
 | n+1,l=>by simp[chunk,Jf sz n]
theorem Og{α:Type}(sz:Nat):∀(n:Nat) (l:List α) (i:Nat),(chunk sz n l)[i]?=if i<n then some ((l.drop (i*sz)).take sz) else none
 | 0,_,i=>by simp[chunk]
 | n+1,l,0=>by simp[chunk]
 | n+1,l,i+1=>by
   simp only[chunk,List.getElem?_cons_succ,Og sz n,List.drop_drop];by_cases h:i<n
   . rw[if_pos h,if_pos (by omega)]
     congr 3
     rw[A2];omega
   . rw[if_neg h,if_neg (by omega)]
theorem Alu(ty t:TypeId)(cs:List D):SX (Mk ty cs) (SX ty t)=SX ty t:=by
 cases ty with
 | zero=>simp[Mk,SX]
 | succ n=>
   simp only[Mk,SX];split<;>simp_all
theorem Ag1(ty:TypeId)(cs:List D)(row:Array Value):Exa (Mk ty cs) cs row:=by
 intro h h1;cases ty with
 | zero=>exact (h rfl).elim
 | succ n=>simp[Mk,h1] at h
theorem Rel.Ak2(hr:Rel c st a w F M){id off:Nat}{bs cs:List D}{ty:TypeId}{vs:List Value}(ho:get st.hp id=some (.box bs ty))(hd:KA F w M (sg st.hp) cs vs)(h1:cs.all D.one=true)
   (hl:off+cs.length<=bs.length):
   ∃w',(storeCells ⟨(M id).DQ,off,none⟩ vs).run P w= .ok () w'/\Rel c {st with hp:=Cz st.hp id (.box (bs.take off++cs++bs.drop (off+cs.length)) (Mk ty (bs.take off++cs++bs.drop (off+cs.length))))} a w' F M:=by
 obtain ⟨Mn,row,t,Dq,GH,De⟩:=hr.heap.obj id _ ho;have VX:vs.length=cs.length:=hd.1;have Ks:∀v∈vs,v.oneCell'=true:=λ v hv=>by
   obtain ⟨i,hi⟩:=A4.1 hv;have Cv:=(Ao.1 hi).1;have hc:cs[i]?=some (cs[i]'(by omega)):=Az (by omega);have:=(hd.2 i _ hc).Jc (AB.1 h1 _ (AQ hc));rwa[Av,hi] at this
 have Mm:=run_storeCells_at P (M id).DQ off (SX ty t) vs 0 row w Dq (by omega) Ks;simp only[Bu] at Mm;refine ⟨_,Mm,?_⟩;have Cx:∀j,get (Cz st.hp id (.box (bs.take off++cs++bs.drop (off+cs.length)) (Mk ty (bs.take off++cs++bs.drop (off+cs.length))))) j=if j=id then some (.box (bs.take off++cs++bs.drop (off+cs.length)) (Mk ty (bs.take off++cs++bs.drop (off+cs.length)))) else get st.hp j:=CU _ _ _
 have G7:=DJ Cx ho rfl;refine hr.change (M':=M) Cx (λ _ _=>rfl) (by rw[G7];exact C1.refl _ _) rfl rfl rfl (by simp) (λ b hb Dt=>setRow_other w _ b _ (Dt _ ho)) ?_ (λ b hb=> .inl ⟨_,ho,hb⟩);have Hl:∀{d v},DR F w M (sg st.hp) d v->DR F (w.setRow (M id).DQ (row.toList.take off++vs++row.toList.drop (off+vs.length)).toArray) M (sg (Cz st.hp id (.box (bs.take off++cs++bs.drop (off+cs.length)) (Mk ty (bs.take off++cs++bs.drop (off+cs.length)))))) d v:=by
   intro d v h;rw[G7];exact h.CW (λ b hb=>setRow_other w _ b _ (λ e=>Mn (e ▸ hb))) (λ _ h=>h) (C1.refl _ _)
 refine ⟨Mn,_,SX ty t,by rw[Alu];exact setRow_heap w _ _ _ (SX ty t) (0,0) Dq,?_,λ j d hj=>?_,Ag1 _ _ _⟩
 . simp[VX,GH]
 . have hrd:KA F w M (sg st.hp) bs row.toList:=⟨by simpa using GH,λ i e he=>by have:=(De.1 i e he).1;simpa [List.getD,Array.getD_eq_getD_getElem?] using this⟩;have DD:=((hrd.take off).append hd).append (hrd.drop (off+cs.length));have hdj:=DD.2 j d hj;have e1:((row.toList.take off++vs++row.toList.drop (off+vs.length)).toArray).getD j undef=(row.toList.take off++vs++row.toList.drop (off+cs.length)).getD j undef:=by
     rw[VX];simp[List.getD,At]
   rw[e1];refine ⟨Hl hdj,?_⟩;have Atj:∀v∈row.toList,v.oneCell'=true:=λ v hv=>by
     obtain ⟨i,hi⟩:=A4.1 hv;have Cv:=(Ao.1 hi).1;simp only[Array.length_toList] at Cv;have:=(De.1 i _ (Az (by omega))).2;have e2:row[i]?=some v:=by simpa using hi
     rwa[At,e2] at this
   have Cv:j<(row.toList.take off++vs++row.toList.drop (off+cs.length)).length:=by rw[DD.1];exact (Ao.1 hj).1
   rw[Av,Az Cv];have Fe:(row.toList.take off++vs++row.toList.drop (off+cs.length))[j]∈row.toList.take off++vs++row.toList.drop (off+cs.length):=AN Cv;rw[Aw,Aw] at Fe;simp only[A5];rcases Fe with (Fe | Fe) | Fe
   . exact Atj _ (Bv Fe)
   . exact Ks _ Fe
   . exact Atj _ (List.mem_of_mem_drop Fe)
theorem Rel.Ak3(hr:Rel c st a w F M){id i q sz:Nat}{e:TypeId}{es:List (List Pd)}{xs:List Pd}{vs:List Value}(ho:get st.hp id=some (.arr e sz es))(hi:i<es.length)
   (hl:xs.length=vs.length) (hx:∀(j:Nat) x,xs[j]?=some x->PR F w x (vs.getD j undef)) (hq:q+xs.length<=sz):
   ∃w',(storeCells ⟨(M id).DQ,i*sz+q,none⟩ vs).run P w= .ok () w'/\
     Rel c {st with hp:=Cz st.hp id (.arr e sz (es.set i ((es.getD i []).take q++xs++(es.getD i []).drop (q+xs.length))))} a w' F M:=by
 obtain ⟨h1,h2,Ij,h3,h4⟩:=hr.heap.obj id _ ho;have Mx:(M id).cap≠0:=by omega
 obtain ⟨Mn,row,Dq,GH,De⟩:=h4 Mx;have hej:es[i]?=some (es.getD i []):=by simp[List.getD,hi]
 have hlen:=h3 i _ hej;have Ks:∀v∈vs,v.oneCell'=true:=λ v hv=>by
   obtain ⟨j,hj⟩:=A4.1 hv;have Cv:=(Ao.1 hj).1;have:=(hx j _ (Az (by omega))).Jc;rwa[Av,hj] at this
 have Arv:i*sz+sz<=row.size:=by
   have h5:(i+1)*sz<=(M id).cap*sz:=Bh _ (by omega);rw[A2] at h5;omega
 have Mm:=Ew P (M id).DQ (i*sz+q) e vs 0 row w Dq (by omega) Ks;simp only[Bu] at Mm;refine ⟨_,Mm,?_⟩;have Cx:∀j,get (Cz st.hp id (.arr e sz (es.set i ((es.getD i []).take q++xs++(es.getD i []).drop (q+xs.length))))) j=if j=id then some (.arr e sz (es.set i ((es.getD i []).take q++xs++(es.getD i []).drop (q+xs.length)))) else get st.hp j:=CU _ _ _
 have G7:=DJ Cx ho (by simp[AO.sg]);refine hr.change (M':=M) Cx (λ _ _=>rfl) (by rw[G7];exact C1.refl _ _) rfl rfl rfl (by simp) (λ b hb Dt=>setRow_other w _ b _ (λ e=>Dt _ ho ⟨Mx,e⟩)) ?_ (λ b hb=> .inl ⟨_,ho,hb⟩);have OA:((es.getD i []).take q++xs++(es.getD i []).drop (q+xs.length)).length=sz:=by
   rw[Aq,Aq,A8,BM];omega
 refine ⟨h1,by simpa using h2,Ij,λ k x hk=>?_,λ _=>⟨Mn,_,Dq.set (by simp;omega),by simp;omega,λ k x j y hk hy=>?_⟩⟩
 . rw[BR] at hk;by_cases e1:i=k
   . rw[if_pos e1,if_pos (by omega)] at hk;simp only[Al] at hk;rw[<-hk];exact OA
   . rw[if_neg e1] at hk;exact h3 k x hk
 . have Hl:∀{x v},PR F w x v->PR F (w.setRow (M id).DQ (row.toList.take (i*sz+q)++vs++row.toList.drop (i*sz+q+vs.length)).toArray) x v:=
     λ h=>h.CW (λ b hb=>setRow_other w _ b _ (λ e=>Mn (e ▸ hb))) (λ _ h=>h)
   have IN:∀p,((row.toList.take (i*sz+q)++vs++row.toList.drop (i*sz+q+vs.length)).toArray).getD p undef=
       if p<i*sz+q then row.getD p undef else if p<i*sz+q+vs.length then vs.getD (p - (i*sz+q)) undef else row.getD p undef:=by
     intro p;have hA:(row.toList.take (i*sz+q)).length=i*sz+q:=by simp;omega
     rw[At,At,Av];simp only[List.getElem?_toArray];by_cases e1:p<i*sz+q
     . rw[if_pos e1,A9,AW (by omega),AI,if_pos e1];simp
     . rw[if_neg e1];by_cases e2:p<i*sz+q+vs.length
       . rw[if_pos e2,A9,A1 (by omega),hA,AW (by omega)]
       . rw[if_neg e2,A1 (by simp;omega),AR];simp only[Aq,hA];rw[show i*sz+q+vs.length+(p - (i*sz+q+vs.length))=p from by omega];simp
   rw[IN];rw[BR] at hk;by_cases e1:i=k
   . subst e1;rw[if_pos rfl,if_pos hi] at hk;simp only[Al] at hk;subst hk;rw[A9,AL] at hy;have hA:((es.getD i []).take q).length=q:=by rw[A8];omega
     rw[hA] at hy;split at hy
     . rename_i Cv;rw[if_pos (by omega)];rw[AI,if_pos Cv] at hy;exact Hl (De i _ j y hej hy)
     . rename_i hge;rw[if_neg (by omega)];rw[AL] at hy;split at hy
       . rename_i Cv;rw[if_pos (by omega)];have:=hx _ y hy;rw[show i*sz+j - (i*sz+q)=j - q from by omega];exact Hl this
       . rename_i hge2;rw[if_neg (by omega)];rw[AR] at hy;have:=De i _ _ y hej hy;rw[show i*sz+(q+xs.length+(j - q - xs.length))=i*sz+j from by omega] at this;exact Hl this
   . rw[if_neg e1] at hk;have hxl:=h3 k x hk;have hjl:=(Ao.1 hy).1;have:=Hl (De k x j y hk hy);rcases Nat.lt_or_ge k i with hki | hki
     . have h5:(k+1)*sz<=i*sz:=Bh _ (by omega);rw[A2] at h5;rw[if_pos (by omega)];exact this
     . have h5:(i+1)*sz<=k*sz:=Bh _ (by omega);rw[A2] at h5;rw[if_neg (by omega),if_neg (by omega)];exact this
end
end Go.Am
namespace Go.Am
open Go
section
variable {P:Program} {c:Ctx} {st:St} {a:Act} {w:World} {F:Nat->Prop} {M:Nat->Mb}
theorem Rel.Ali(hr:Rel c st a w F M){hp':Hp}{M':Nat->Mb}(G7:C1 M M' (sg st.hp) (sg hp'))
   (Amd:∀j o,get hp' j=some o->(get st.hp j=some o/\M' j=M j)∨Wg F w M' (sg hp') (M' j) o)
   (CT:∀j o b,get hp' j=some o->o.Gz (M' j) b->E8 M st.hp b)
   (Po:∀j o j' o' b,get hp' j=some o->get hp' j'=some o'->o.Gz (M' j) b->o'.Gz (M' j') b->j=j'):Rel c {st with hp:=hp'} a w F M':=by
 constructor
 . intro t d ht;exact (hr.env t d ht).CW (λ _ _=>rfl) (λ _ h=>h) G7
 . exact hr.size
 . exact hr.defers
 . refine ⟨λ j o hj=>?_,λ j o j' o' b h1 h2 h3 h4=>Po j o j' o' b h1 h2 h3 h4⟩;rcases Amd j o hj with ⟨h1,h2⟩ | h1
   . rw[h2];exact (hr.heap.obj j o h1).CW (λ _ _=>rfl) (λ _ h=>h) G7 (λ b hb=>⟨rfl,hr.heap.JL ⟨j,o,h1,hb⟩⟩)
   . exact h1
 . have hk:=hr.CW;refine ⟨hk.os,hk.tape,hk.output,hk.size,hk.N2,hk.F0,hk.Fn,hk.Fl,?_,hk.XQ.trans G7,hk.s0b⟩;rintro b ⟨j,o,h1,h2⟩;exact hk.own b (CT j o b h1 h2)
theorem Eu{l:List (Nat×Nat)}{i j:Nat}{x y:Nat×Nat}(h:(l.set i x)[j]?=some y):(i=j/\y=x)∨(i≠j/\l[j]?=some y):=by
 rw[BR] at h;split at h
 . rename_i e;split at h
   . simp only[Al] at h;exact .inl ⟨e,h.symm⟩
   . cases h
 . rename_i e;exact .inr ⟨e,h⟩
theorem Rel.Bau(hr:Rel c st a w F M){id i q:Nat}{t e:TypeId}{sz k:Nat}{rows:List (List (List Pd))}{r:List (List Pd)}(hg:get st.hp id=some (.DF t e sz k rows none))(hi:rows[i]?=some r)
   (hq:get st.hp q=none):∃bc,(M id).xs[i]?=some bc/\
     C1 M (λ j=>if j=q then ⟨bc.1,bc.2,[]⟩ else if j=id then {(M id) with xs:=(M id).xs.set i (0,0)} else M j) (sg st.hp) (sg ((q,AO.arr e sz r)::Cz st.hp id (.DF t e sz (k+1) rows (some i))))/\
     Rel c {st with hp:=(q,.arr e sz r)::Cz st.hp id (.DF t e sz (k+1) rows (some i))} a w F (λ j=>if j=q then ⟨bc.1,bc.2,[]⟩ else if j=id then {(M id) with xs:=(M id).xs.set i (0,0)} else M j):=by
 have hn:Ie F w (M id) t e sz rows none:=hr.heap.obj id _ hg;have Cv:i<rows.length:=(Ao.1 hi).1;have Ay5:i<(M id).xs.length:=by rw[hn.xl];exact Cv
 obtain ⟨bc,hbc⟩:∃bc,(M id).xs[i]?=some bc:=⟨_,Az Ay5⟩;have j4:q≠id:=λ e=>by rw[e,hg] at hq;cases hq
 refine ⟨bc,hbc,?_⟩;generalize hM':(λ j=>if j=q then (⟨bc.1,bc.2,[]⟩:Mb) else if j=id then {(M id) with xs:=(M id).xs.set i (0,0)} else M j)=M';have J9:M' q=⟨bc.1,bc.2,[]⟩:=by rw[<-hM'];simp
 have Kv:M' id={(M id) with xs:=(M id).xs.set i (0,0)}:=by rw[<-hM'];simp[Bc j4]
 have OR:∀j,j≠q->j≠id->M' j=M j:=λ j h1 h2=>by rw[<-hM'];simp[h1,h2]
 have Cx:∀j,get ((q,AO.arr e sz r)::Cz st.hp id (.DF t e sz (k+1) rows (some i))) j=if j=q then some (.arr e sz r) else if j=id then some (.DF t e sz (k+1) rows (some i)) else get st.hp j:=by
   intro j;rw[Cw,CU];by_cases h:q=j
   . subst h;simp
   . rw[if_neg h,if_neg (Bc h)]
 have RI:sg st.hp id=some (.DF sz rows.length k):=by simp[sg,hg,AO.sg]
 have Hk:C1 M M' (sg st.hp) (sg ((q,AO.arr e sz r)::Cz st.hp id (.DF t e sz (k+1) rows (some i)))):=by
   have Dt:∀j s,sg st.hp j=some s->j≠q:=λ j s hs e=>by rw[e] at hs;simp[sg,hq] at hs
   refine ⟨λ j hj=>?_,λ j s2 n2 hj=>?_,λ j s2 n2 k2 hj=>?_⟩
   . have h1:=Dt j _ hj;have h2:j≠id:=λ e=>by rw[e,RI] at hj;cases hj
     refine ⟨?_,by rw[OR j h1 h2]⟩;unfold sg at hj ⊢;rw[Cx,if_neg h1,if_neg h2];exact hj
   . have h1:=Dt j _ hj;have h2:j≠id:=λ e=>by rw[e,RI] at hj;cases hj
     refine ⟨n2,?_,Ai _,λ _=>OR j h1 h2⟩;unfold sg at hj ⊢;rw[Cx,if_neg h1,if_neg h2];exact hj
   . have h1:=Dt j _ hj;by_cases h2:j=id
     . subst h2;rw[RI] at hj;simp only[Al,Sg.DF.injEq] at hj;obtain ⟨rfl,rfl,rfl⟩:=hj;refine ⟨_,k+1,?_,Ai _,Nat.le_succ _,λ _=>by rw[Kv];exact ⟨rfl,rfl⟩,λ h=>by omega⟩;unfold sg;rw[Cx,if_neg h1,if_pos rfl];rfl
     . refine ⟨n2,k2,?_,Ai _,Ai _,λ _=>by rw[OR j h1 h2];exact ⟨rfl,rfl⟩,λ _=>by rw[OR j h1 h2]⟩;unfold sg at hj ⊢;rw[Cx,if_neg h1,if_neg h2];exact hj
 have Avn:Vu F w ⟨bc.1,bc.2,[]⟩ e sz r:=hn.rows i r bc hi hbc (by simp);have hN':Ie F w (M' id) t e sz rows (some i):=by
   rw[Kv];refine ⟨hn.pos,by simp[hn.xl],hn.le,hn.max,λ hc=>?_,λ j r' b' h1 h2 h3=>?_,λ j b' h1 h2=>?_,λ j1 j2 b1 b2 h1 h2 h3 h4 h5=>?_,λ j b' h1 h2 h3=>?_⟩
   . obtain ⟨g1,row,g2,g3,g4⟩:=hn.outer hc;refine ⟨g1,row,g2,g3,λ j r' b' h1 h2 h3=>?_⟩;rcases Eu h2 with ⟨h4,_⟩ | ⟨_,h4⟩
     . exact (h3 (by rw[h4])).elim
     . exact g4 j r' b' h1 h4 (by simp)
   . rcases Eu h2 with ⟨h4,_⟩ | ⟨_,h4⟩
     . exact (h3 (by rw[h4])).elim
     . exact hn.rows j r' b' h1 h4 (by simp)
   . rcases Eu h2 with ⟨_,h4⟩ | ⟨h4,_⟩
     . rw[h4]
     . exact (h4 (Ac h1)).elim
   . rcases Eu h1 with ⟨_,e1⟩ | ⟨_,e1⟩
     . rw[e1] at h4;exact (h4 rfl).elim
     . rcases Eu h2 with ⟨_,e2⟩ | ⟨_,e2⟩
       . rw[e2] at h5;exact (h5 rfl).elim
       . exact hn.dis j1 j2 b1 b2 e1 e2 h3 h4 h5
   . rcases Eu h1 with ⟨_,e1⟩ | ⟨_,e1⟩
     . rw[e1] at h2;exact (h2 rfl).elim
     . exact hn.out j b' e1 h2 h3
 have M4:∀b,DU (M' id) b->DU (M id) b/\¬(bc.2≠0/\b=bc.1):=by
   intro b hb;rw[Kv] at hb;rcases hb with ⟨h1,h2⟩ | ⟨j,b',h1,h2,h3⟩
   . exact ⟨.inl ⟨h1,h2⟩,λ h3=>hn.out i bc hbc h3.1 h1 (h3.2.symm.trans h2)⟩
   . rcases Eu h1 with ⟨_,e1⟩ | ⟨e0,e1⟩
     . rw[e1] at h2;exact (h2 rfl).elim
     . exact ⟨.inr ⟨j,b',e1,h2,h3⟩,λ h4=>hn.dis i j bc b' hbc e1 e0 h4.1 h2 (h4.2.symm.trans h3)⟩
 have Ar4:∀b,(AO.arr e sz r).Gz (M' q) b->bc.2≠0/\b=bc.1:=λ b hb=>by rw[J9] at hb;exact hb
 refine ⟨Hk,hr.Ali Hk (λ j o hj=>?_) (λ j o b hj hb=>?_) (λ j o j' o' b hj Hu hb S7=>?_)⟩
 . rw[Cx] at hj;split at hj
   . rename_i h1;subst h1;cases hj;right;rw[J9];exact Avn
   . split at hj
     . rename_i h2;subst h2;cases hj;exact .inr hN'
     . rename_i h1 h2;exact .inl ⟨hj,OR j h1 h2⟩
 . rw[Cx] at hj;split at hj
   . rename_i h1;subst h1;cases hj;exact ⟨id,_,hg,.inr ⟨i,bc,hbc,Ar4 b hb⟩⟩
   . split at hj
     . rename_i h2;subst h2;cases hj;exact ⟨j,_,hg,(M4 b hb).1⟩
     . rename_i h1 h2;rw[OR j h1 h2] at hb;exact ⟨j,o,hj,hb⟩
 . rw[Cx] at hj Hu;have N2:∀j o,j≠q->j≠id->get st.hp j=some o->o.Gz (M' j) b->DU (M id) b->False:=λ j o h1 h2 h3 h4 h5=>by
     rw[OR j h1 h2] at h4;exact h2 (hr.heap.inj j o id _ b h3 hg h4 h5)
   split at hj
   . rename_i h1;subst h1;cases hj;have hbq:=Ar4 b hb;split at Hu
     . rename_i EN;exact EN.symm
     . split at Hu
       . rename_i Ij;subst Ij;cases Hu;exact ((M4 b S7).2 hbq).elim
       . rename_i EN Ij;exact (N2 j' o' EN Ij Hu S7 (.inr ⟨i,bc,hbc,hbq⟩)).elim
   . rename_i h1;split at hj
     . rename_i h2;subst h2;cases hj;split at Hu
       . rename_i EN;subst EN;cases Hu;exact ((M4 b hb).2 (Ar4 b S7)).elim
       . split at Hu
         . rename_i Ij;exact Ij.symm
         . rename_i EN Ij;exact (N2 j' o' EN Ij Hu S7 (M4 b hb).1).elim
     . rename_i h2;split at Hu
       . rename_i EN;subst EN;cases Hu;exact (N2 j o h1 h2 hj hb (.inr ⟨i,bc,hbc,Ar4 b S7⟩)).elim
       . split at Hu
         . rename_i Ij;subst Ij;cases Hu;exact (N2 j o h1 h2 hj hb (M4 b S7).1).elim
         . rename_i EN Ij;rw[OR j h1 h2] at hb;rw[OR j' EN Ij] at S7;exact hr.heap.inj j o j' o' b hj Hu hb S7
theorem V9{hp:Hp}{id:Nat}{o:AO}(h:get hp id=some o)(j:Nat):get (Cz hp id o) j=get hp j:=by
 rw[CU];split
 . rename_i e;rw[e,h]
 . rfl
theorem Rel.drop(hr:Rel c st a w F M){id i:Nat}{t e:TypeId}{sz k:Nat}{rows:List (List (List Pd))}(hg:get st.hp id=some (.DF t e sz k rows none))(hi:i<rows.length):
   Rel c {st with hp:=Cz st.hp id (.DF t e sz (k+1) rows (some i))} a w F (λ j=>if j=id then {(M id) with xs:=(M id).xs.set i (0,0)} else M j):=by
 have hn:Ie F w (M id) t e sz rows none:=hr.heap.obj id _ hg;generalize hM':(λ j=>if j=id then {(M id) with xs:=(M id).xs.set i (0,0)} else M j)=M';have Kv:M' id={(M id) with xs:=(M id).xs.set i (0,0)}:=by rw[<-hM'];simp
 have OR:∀j,j≠id->M' j=M j:=λ j h=>by rw[<-hM'];simp[h]
 have Cx:∀j,get (Cz st.hp id (.DF t e sz (k+1) rows (some i))) j=if j=id then some (.DF t e sz (k+1) rows (some i)) else get st.hp j:=CU _ _ _
 have RI:sg st.hp id=some (.DF sz rows.length k):=by simp[sg,hg,AO.sg]
 have Hk:C1 M M' (sg st.hp) (sg (Cz st.hp id (.DF t e sz (k+1) rows (some i)))):=by
   refine ⟨λ j hj=>?_,λ j s2 n2 hj=>?_,λ j s2 n2 k2 hj=>?_⟩
   . have h2:j≠id:=λ e=>by rw[e,RI] at hj;cases hj
     refine ⟨?_,by rw[OR j h2]⟩;unfold sg at hj ⊢;rw[Cx,if_neg h2];exact hj
   . have h2:j≠id:=λ e=>by rw[e,RI] at hj;cases hj
     refine ⟨n2,?_,Ai _,λ _=>OR j h2⟩;unfold sg at hj ⊢;rw[Cx,if_neg h2];exact hj
   . by_cases h2:j=id
     . subst h2;rw[RI] at hj;simp only[Al,Sg.DF.injEq] at hj;obtain ⟨rfl,rfl,rfl⟩:=hj;refine ⟨_,k+1,?_,Ai _,Nat.le_succ _,λ _=>by rw[Kv];exact ⟨rfl,rfl⟩,λ h=>by omega⟩;unfold sg;rw[Cx,if_pos rfl];rfl
     . refine ⟨n2,k2,?_,Ai _,Ai _,λ _=>by rw[OR j h2];exact ⟨rfl,rfl⟩,λ _=>by rw[OR j h2]⟩;unfold sg at hj ⊢;rw[Cx,if_neg h2];exact hj
 have hN':Ie F w (M' id) t e sz rows (some i):=by
   rw[Kv];refine ⟨hn.pos,by simp[hn.xl],hn.le,hn.max,λ hc=>?_,λ j r' b' h1 h2 h3=>?_,λ j b' h1 h2=>?_,λ j1 j2 b1 b2 h1 h2 h3 h4 h5=>?_,λ j b' h1 h2 h3=>?_⟩
   . obtain ⟨g1,row,g2,g3,g4⟩:=hn.outer hc;refine ⟨g1,row,g2,g3,λ j r' b' h1 h2 h3=>?_⟩;rcases Eu h2 with ⟨h4,_⟩ | ⟨_,h4⟩
     . exact (h3 (by rw[h4])).elim
     . exact g4 j r' b' h1 h4 (by simp)
   . rcases Eu h2 with ⟨h4,_⟩ | ⟨_,h4⟩
     . exact (h3 (by rw[h4])).elim
     . exact hn.rows j r' b' h1 h4 (by simp)
   . rcases Eu h2 with ⟨_,h4⟩ | ⟨h4,_⟩
     . rw[h4]
     . exact (h4 (Ac h1)).elim
   . rcases Eu h1 with ⟨_,e1⟩ | ⟨_,e1⟩
     . rw[e1] at h4;exact (h4 rfl).elim
     . rcases Eu h2 with ⟨_,e2⟩ | ⟨_,e2⟩
       . rw[e2] at h5;exact (h5 rfl).elim
       . exact hn.dis j1 j2 b1 b2 e1 e2 h3 h4 h5
   . rcases Eu h1 with ⟨_,e1⟩ | ⟨_,e1⟩
     . rw[e1] at h2;exact (h2 rfl).elim
     . exact hn.out j b' e1 h2 h3
 have M4:∀b,DU (M' id) b->DU (M id) b:=by
   intro b hb;rw[Kv] at hb;rcases hb with ⟨h1,h2⟩ | ⟨j,b',h1,h2,h3⟩
   . exact .inl ⟨h1,h2⟩
   . rcases Eu h1 with ⟨_,e1⟩ | ⟨e0,e1⟩
     . rw[e1] at h2;exact (h2 rfl).elim
     . exact .inr ⟨j,b',e1,h2,h3⟩
 refine hr.Ali Hk (λ j o hj=>?_) (λ j o b hj hb=>?_) (λ j o j' o' b hj Hu hb S7=>?_)
 . rw[Cx] at hj;split at hj
   . rename_i h2;subst h2;cases hj;exact .inr hN'
   . rename_i h2;exact .inl ⟨hj,OR j h2⟩
 . rw[Cx] at hj;split at hj
   . rename_i h2;subst h2;cases hj;exact ⟨j,_,hg,M4 b hb⟩
   . rename_i h2;rw[OR j h2] at hb;exact ⟨j,o,hj,hb⟩
 . rw[Cx] at hj Hu;have N2:∀j o,j≠id->get st.hp j=some o->o.Gz (M' j) b->DU (M' id) b->False:=λ j o h2 h3 h4 h5=>by
     rw[OR j h2] at h4;exact h2 (hr.heap.inj j o id _ b h3 hg h4 (M4 b h5))
   split at hj
   . rename_i h2;subst h2;cases hj;split at Hu
     . rename_i Ij;exact Ij.symm
     . rename_i Ij;exact (N2 j' o' Ij Hu S7 hb).elim
   . rename_i h2;split at Hu
     . rename_i Ij;subst Ij;cases Hu;exact (N2 j o h2 hj hb S7).elim
     . rename_i Ij;rw[OR j h2] at hb;rw[OR j' Ij] at S7;exact hr.heap.inj j o j' o' b hj Hu hb S7
theorem Rel.Ak1(hr:Rel c st a w F M){id i:Nat}{t e:TypeId}{sz k:Nat}{rows:List (List (List Pd))}(hg:get st.hp id=some (.DF t e sz k rows (some i)))(hi:i<rows.length)(v:Value)(h1:v.oneCell'=true):
   ∃w',(storeCells ⟨(M id).DQ,i,none⟩ [v]).run P w= .ok () w'/\Rel c st a w' F M/\∃row,w'.heap[(M id).DQ]?=some (.cells row t (0,0))/\row.size=(M id).cap/\row.getD i undef=v:=by
 have hn:Ie F w (M id) t e sz rows (some i):=hr.heap.obj id _ hg;have Mx:(M id).cap≠0:=by have:=hn.le;omega
 obtain ⟨Mn,row,Dq,GH,De⟩:=hn.outer Mx;have Cv:i<row.size:=by have:=hn.le;omega
 have Mm:=run_storeCells_at P (M id).DQ i t [v] 0 row w Dq (by simp;omega) (by simpa using h1);simp only[Bu,An,Ax,Bf] at Mm;have IN:∀p,((row.toList.take i++[v]++row.toList.drop (i+1)).toArray).getD p undef=if p=i then v else row.getD p undef:=by
   intro p;have e1:row.toList.take i++[v]++row.toList.drop (i+1)=row.toList.set i v:=by
     rw[List.set_eq_take_append_cons_drop,if_pos (by simpa using Cv)];simp
   rw[e1];simp only[At,List.getElem?_toArray,BR];by_cases e2:i=p
   . subst e2;simp[Cv]
   . rw[if_neg e2,if_neg (Bc e2)];simp
 have FJ:((row.toList.take i++[v]++row.toList.drop (i+1)).toArray).size=(M id).cap:=by
   simp;omega
 have Cx:=V9 hg;refine ⟨_,Mm,?_,_,setRow_heap w _ _ _ t (0,0) Dq,FJ,by rw[IN,if_pos rfl]⟩;have hh:∀j,get st.hp j=if j=id then some (.DF t e sz k rows (some i)) else get st.hp j:=λ j=>by split<;>simp_all
 have hch:=hr.change (M':=M) (hp':=st.hp) (w':=w.setRow (M id).DQ (row.toList.take i++[v]++row.toList.drop (i+1)).toArray) hh (λ _ _=>rfl) (C1.refl _ _) rfl rfl rfl (by simp)
   (λ b hb Dt=>setRow_other w _ b _ (λ e=>Dt _ hg (.inl ⟨Mx,e⟩))) ?_ (λ b hb=> .inl ⟨_,hg,hb⟩)
 . exact hch
 . refine ⟨hn.pos,hn.xl,hn.le,hn.max,λ _=>⟨Mn,_,setRow_heap w _ _ _ t (0,0) Dq,FJ,λ j r bc h2 h3 h4=>?_⟩,λ j r bc h2 h3 h4=>?_,hn.Afy,hn.dis,hn.out⟩
   . obtain ⟨ad,h5,h6⟩:=De j r bc h2 h3 h4;have:j≠i:=λ e=>h4 (by rw[e]);exact ⟨ad,by rw[IN,if_neg this];exact h5,h6⟩
   . refine (hn.rows j r bc h2 h3 h4).CW (λ b hb=>setRow_other w _ b _ (λ e=>Mn (e ▸ hb))) (λ _ h=>h) (λ hc=>⟨setRow_other w _ _ _ (hn.out j bc h3 hc Mx),?_⟩);exact ((hn.rows j r bc h2 h3 h4).2.2.2.2 hc).1
theorem Rel.fill(hr:Rel c st a w F M){id i q:Nat}{t e:TypeId}{sz k:Nat}{rows:List (List (List Pd))}{es:List (List Pd)}(hg:get st.hp id=some (.DF t e sz k rows (some i)))(hi:i<rows.length)
   (hq:get st.hp q=some (.arr e sz es)) (Dq:∃row,w.heap[(M id).DQ]?=some (.cells row t (0,0))/\∃ad,row.getD i undef= .slice ad es.length (M q).cap/\((M q).cap=0∨ad=some ⟨(M q).DQ,0,none⟩)):
   Rel c {st with hp:=Cz (Cz st.hp id (.DF t e sz (k+1) (rows.set i es) none)) q (.Fv (I7 (.arr sz (es.length+1))))} a w F (λ j=>if j=id then {(M id) with xs:=(M id).xs.set i ((M q).DQ,(M q).cap)} else M j):=by
 have hn:Ie F w (M id) t e sz rows (some i):=hr.heap.obj id _ hg;have hA:Vu F w (M q) e sz es:=hr.heap.obj q _ hq;have j4:q≠id:=λ e=>by rw[e,hg] at hq;cases hq
 generalize hM':(λ j=>if j=id then {(M id) with xs:=(M id).xs.set i ((M q).DQ,(M q).cap)} else M j)=M';have Kv:M' id={(M id) with xs:=(M id).xs.set i ((M q).DQ,(M q).cap)}:=by rw[<-hM'];simp
 have OR:∀j,j≠id->M' j=M j:=λ j h=>by rw[<-hM'];simp[h]
 have Cx:∀j,get (Cz (Cz st.hp id (.DF t e sz (k+1) (rows.set i es) none)) q (.Fv (I7 (.arr sz (es.length+1))))) j=
     if j=q then some (.Fv (I7 (.arr sz (es.length+1)))) else if j=id then some (.DF t e sz (k+1) (rows.set i es) none) else get st.hp j:=λ j=>by rw[CU,CU]
 have RI:sg st.hp id=some (.DF sz rows.length k):=by simp[sg,hg,AO.sg]
 have VY:sg st.hp q=some (.arr sz es.length):=by simp[sg,hq,AO.sg]
 have Hk:C1 M M' (sg st.hp) (sg (Cz (Cz st.hp id (.DF t e sz (k+1) (rows.set i es) none)) q (.Fv (I7 (.arr sz (es.length+1)))))):=by
   refine ⟨λ j hj=>?_,λ j s2 n2 hj=>?_,λ j s2 n2 k2 hj=>?_⟩
   . have h1:j≠q:=λ e=>by rw[e,VY] at hj;cases hj
     have h2:j≠id:=λ e=>by rw[e,RI] at hj;cases hj
     refine ⟨?_,by rw[OR j h2]⟩;unfold sg at hj ⊢;rw[Cx,if_neg h1,if_neg h2];exact hj
   . have h2:j≠id:=λ e=>by rw[e,RI] at hj;cases hj
     by_cases h1:j=q
     . subst h1;rw[VY] at hj;simp only[Al,Sg.arr.injEq] at hj;obtain ⟨rfl,rfl⟩:=hj;refine ⟨es.length+1,?_,Nat.le_succ _,λ h=>by omega⟩;unfold sg;rw[Cx,if_pos rfl];rfl
     . refine ⟨n2,?_,Ai _,λ _=>OR j h2⟩;unfold sg at hj ⊢;rw[Cx,if_neg h1,if_neg h2];exact hj
   . have h1:j≠q:=λ e=>by rw[e,VY] at hj;cases hj
     by_cases h2:j=id
     . subst h2;rw[RI] at hj;simp only[Al,Sg.DF.injEq] at hj;obtain ⟨rfl,rfl,rfl⟩:=hj;refine ⟨_,k+1,?_,Ai _,Nat.le_succ _,λ _=>by rw[Kv];exact ⟨rfl,rfl⟩,λ h=>by omega⟩;unfold sg;rw[Cx,if_neg h1,if_pos rfl];simp[AO.sg]
     . refine ⟨n2,k2,?_,Ai _,Ai _,λ _=>by rw[OR j h2];exact ⟨rfl,rfl⟩,λ _=>by rw[OR j h2]⟩;unfold sg at hj ⊢;rw[Cx,if_neg h1,if_neg h2];exact hj
 have Ay5:i<(M id).xs.length:=by rw[hn.xl];exact hi
 have Dt:∀b,(M q).cap≠0->b=(M q).DQ->¬DU (M id) b:=λ b h1 h2 h3=>j4 (hr.heap.inj q _ id _ b hq hg ⟨h1,h2⟩ h3);have Ake:∀{j r'},(rows.set i es)[j]?=some r'->(i=j/\r'=es)∨(i≠j/\rows[j]?=some r'):=by
   intro j r' h;by_cases e:i=j
   . subst e;rw[BA hi] at h;exact .inl ⟨rfl,(Ac h).symm⟩
   . rw[List.getElem?_set_ne e] at h;exact .inr ⟨e,h⟩
 have hN':Ie F w (M' id) t e sz (rows.set i es) none:=by
   rw[Kv];refine ⟨hn.pos,by simp[hn.xl],by simpa using hn.le,hn.max,λ hc=>?_,λ j r' b' h1 h2 h3=>?_,λ j b' h1 h2=>(by cases h1),λ j1 j2 b1 b2 h1 h2 h3 h4 h5=>?_,λ j b' h1 h2 h3=>?_⟩
   . obtain ⟨g1,row,g2,g3,g4⟩:=hn.outer hc;refine ⟨g1,row,g2,g3,λ j r' b' h1 h2 h3=>?_⟩;rcases Ake h1 with ⟨rfl,rfl⟩ | ⟨e0,e1⟩
     . rcases Eu h2 with ⟨_,rfl⟩ | ⟨h4,_⟩
       . obtain ⟨row2,g5,ad,g6,g7⟩:=Dq;rw[g2] at g5;cases g5;exact ⟨ad,g6,g7⟩
       . exact (h4 rfl).elim
     . rcases Eu h2 with ⟨h4,_⟩ | ⟨_,h4⟩
       . exact (e0 h4).elim
       . exact g4 j r' b' e1 h4 (λ h=>e0 (Ac h))
   . rcases Ake h1 with ⟨rfl,rfl⟩ | ⟨e0,e1⟩
     . rcases Eu h2 with ⟨_,rfl⟩ | ⟨h4,_⟩
       . exact hA
       . exact (h4 rfl).elim
     . rcases Eu h2 with ⟨h4,_⟩ | ⟨_,h4⟩
       . exact (e0 h4).elim
       . exact hn.rows j r' b' e1 h4 (λ h=>e0 (Ac h))
   . rcases Eu h1 with ⟨d1,e1⟩ | ⟨d1,e1⟩
     . rcases Eu h2 with ⟨d2,e2⟩ | ⟨d2,e2⟩
       . exact (h3 (d1.symm.trans d2)).elim
       . intro h6;subst e1;exact Dt _ h4 rfl (.inr ⟨j2,b2,e2,h5,h6⟩)
     . rcases Eu h2 with ⟨d2,e2⟩ | ⟨d2,e2⟩
       . intro h6;subst e2;exact Dt _ h5 rfl (.inr ⟨j1,b1,e1,h4,h6.symm⟩)
       . exact hn.dis j1 j2 b1 b2 e1 e2 h3 h4 h5
   . rcases Eu h1 with ⟨d1,e1⟩ | ⟨d1,e1⟩
     . intro h6;subst e1;exact Dt _ h2 rfl (.inl ⟨h3,h6⟩)
     . exact hn.out j b' e1 h2 h3
 have M4:∀b,DU (M' id) b->DU (M id) b∨((M q).cap≠0/\b=(M q).DQ):=by
   intro b hb;rw[Kv] at hb;rcases hb with ⟨h1,h2⟩ | ⟨j,b',h1,h2,h3⟩
   . exact .inl (.inl ⟨h1,h2⟩)
   . rcases Eu h1 with ⟨_,e1⟩ | ⟨_,e1⟩
     . subst e1;exact .inr ⟨h2,h3⟩
     . exact .inl (.inr ⟨j,b',e1,h2,h3⟩)
 refine hr.Ali Hk (λ j o hj=>?_) (λ j o b hj hb=>?_) (λ j o j' o' b hj Hu hb S7=>?_)
 . rw[Cx] at hj;split at hj
   . cases hj;exact .inr trivial
   . split at hj
     . rename_i h2;subst h2;cases hj;exact .inr hN'
     . rename_i h1 h2;exact .inl ⟨hj,OR j h2⟩
 . rw[Cx] at hj;split at hj
   . cases hj;exact hb.elim
   . split at hj
     . rename_i h2;subst h2;cases hj;rcases M4 b hb with h3 | h3
       . exact ⟨j,_,hg,h3⟩
       . exact ⟨q,_,hq,h3⟩
     . rename_i h1 h2;rw[OR j h2] at hb;exact ⟨j,o,hj,hb⟩
 . rw[Cx] at hj Hu;have N2:∀j o,j≠q->j≠id->get st.hp j=some o->o.Gz (M' j) b->DU (M' id) b->False:=λ j o h1 h2 h3 h4 h5=>by
     rw[OR j h2] at h4;rcases M4 b h5 with h6 | h6
     . exact h2 (hr.heap.inj j o id _ b h3 hg h4 h6)
     . exact h1 (hr.heap.inj j o q _ b h3 hq h4 h6)
   split at hj
   . cases hj;exact hb.elim
   . rename_i h1;split at Hu
     . cases Hu;exact S7.elim
     . rename_i EN;split at hj
       . rename_i h2;subst h2;cases hj;split at Hu
         . rename_i Ij;exact Ij.symm
         . rename_i Ij;exact (N2 j' o' EN Ij Hu S7 hb).elim
       . rename_i h2;split at Hu
         . rename_i Ij;subst Ij;cases Hu;exact (N2 j o h1 h2 hj hb S7).elim
         . rename_i Ij;rw[OR j h2] at hb;rw[OR j' Ij] at S7;exact hr.heap.inj j o j' o' b hj Hu hb S7
end
end Go.Am
namespace Go.Am
open Go
section
variable {P:Program} {c:Ctx} {st:St} {a:Act} {w:World} {F:Nat->Prop} {M:Nat->Mb}
theorem GS{t t2 ty e:TypeId}{u2:TypeDesc}{i:TypeInfo}(ht:P.underlying t=some (.slice e))(ht2:P.underlying t2=some u2)(PX:∀k,u2≠ .int k)(hi:P.info? e=some i)
   {base:Option Addr} {n cap m:Nat} {vx:Value} {news:Array Value} {w':World} (hlen:(Builtin.lenOf vx).run P w= .ok m w) (hf:(Builtin.firstCells i.size m vx).run P w= .ok news w)
   (I3:n+m<=cap) (Mm:∀ad,base=some ad->(storeCells (ad.add (n*i.size)) news.toList).run P w= .ok () w') (Axz:base=none->w'=w):
   (Builtin.append_ #[t,t2] ty #[.slice base n cap,vx]).run P w= .ok (.slice base (n+m) cap) w':=by
 have hz:(match u2 with | .int _=>true | _=>false)=false:=by cases u2<;>first | rfl | exact (PX _ rfl).elim
 cases base with
 | none=>
   obtain rfl:=Axz rfl;simp[Builtin.append_,run_underlying ht,run_underlying ht2,hz,Dw hi,hlen,I3,hf]
 | some ad=>
   simp[Builtin.append_,run_underlying ht,run_underlying ht2,hz,Dw hi,hlen,I3,hf,Mm ad rfl]
theorem Gl{t t2 ty e:TypeId}{u2:TypeDesc}{i:TypeInfo}{z:Value}(ht:P.underlying t=some (.slice e))(ht2:P.underlying t2=some u2)(PX:∀k,u2≠ .int k)(hi:P.info? e=some i)
   (hz:i.zero=some z) {base:Option Addr} {n cap m:Nat} {vx:Value} {news HK:Array Value} (hlen:(Builtin.lenOf vx).run P w= .ok m w)
   (hf:(Builtin.firstCells i.size m vx).run P w.drew= .ok news w.drew) (hfo:(Builtin.firstCells i.size n (.slice base n cap)).run P w.drew= .ok HK w.drew)
   (I3:cap<n+m) (h63:n+m<=140737488355328) (hb:(n+m)*i.bytes<=140737488355328):
   (Builtin.append_ #[t,t2] ty #[.slice base n cap,vx]).run P w=
     .ok (.slice (some ⟨w.heap.size,0,none⟩) (n+m) (grownCap w (n+m) cap e)) (w.drew.alloc (.cells (HK++news++Builtin.zeroCells z.cells (grownCap w (n+m) cap e - (n+m))) e)):=by
 have hz':(match u2 with | .int _=>true | _=>false)=false:=by cases u2<;>first | rfl | exact (PX _ rfl).elim
 have hn:¬(n+m<=cap):=by omega
 have Bce:¬(9223372036854775807<((n:Int)+(m:Int))):=by omega
 have Bcf:¬(281474976710656<Builtin.nextslicecap (n+m) cap*i.bytes):=by
   have:=growslice_fits I3 hb;omega
 simp[Builtin.append_,run_underlying ht,run_underlying ht2,hz',Dw hi,hlen,hn,Bce,Bcf,typeInfo,hi,Question.forced,hf,hfo,zeroValue,hz,newRow,grownCap]
structure Src(P:Program)(w:World)(F:Nat->Prop)(sz:Nat)(vx:Value)(ys:List (List Pd))(news:List Value):Prop where
 len:∀w1:World,(Builtin.lenOf vx).run P w1= .ok ys.length w1
 cells:∀w1:World,w1.heap=w.heap->(Builtin.firstCells sz ys.length vx).run P w1= .ok news.toArray w1
 pre:∀n,n<=ys.length->∀w1:World,w1.heap=w.heap->(Builtin.firstCells sz n vx).run P w1= .ok (news.take (n*sz)).toArray w1
 size:news.length=ys.length*sz
 data:∀(i:Nat) y (j:Nat) x,ys[i]?=some y->y[j]?=some x->PR F w x (news.getD (i*sz+j) undef)
theorem Lz{es:List (List Pd)}{ad:Option Addr}{cap sz:Nat}(FJ:∀y∈es,y.length=sz)
   (h:es≠[]->∃b off row t fr,ad=some ⟨b,off,none⟩/\w.heap[b]?=some (.cells row t fr)/\(off+es.length*sz<=row.size)/\
     ∀(i:Nat) e (j:Nat) c,es[i]?=some e->e[j]?=some c->PR F w c (row.getD (off+i*sz+j) undef)):∃news,Src P w F sz (.slice ad es.length cap) es news:=by
 by_cases h0:es=[]
 . subst h0;exact ⟨[],⟨λ w1=>by simp[Builtin.lenOf],λ w1 _=>by cases ad<;>simp[Builtin.firstCells,loadCells,loadCellsFrom],λ n hn w1 _=>by
     obtain rfl:n=0:=by simpa using hn
     cases ad<;>simp[Builtin.firstCells,loadCells,loadCellsFrom],by simp,λ i y j x hy _=>by simp at hy⟩⟩
 . obtain ⟨b,off,row,t,fr,rfl,hh,Arv,hp⟩:=h h0;have hlen:((row.toList.drop off).take (es.length*sz)).length=es.length*sz:=by simp;omega
   refine ⟨(row.toList.drop off).take (es.length*sz),⟨λ w1=>by simp[Builtin.lenOf],λ w1 VW=>?_,λ n hn w1 VW=>?_,hlen,λ i y j x hy hx=>?_⟩⟩
   . refine run_firstCells_some (P:=P) w1 sz es.length ⟨b,off,none⟩ es.length cap _ hlen (λ j v hv=>?_);rw[Addr.add_lit,cell_of_row w1 b (off+j) row t fr (by rw[VW];exact hh)];rw[AI] at hv;split at hv
     . simpa using hv
     . cases hv
   . refine run_firstCells_some (P:=P) w1 sz n ⟨b,off,none⟩ es.length cap _ (by rw[A8,hlen];exact Nat.min_eq_left (Bh _ hn)) (λ j v hv=>?_);rw[Addr.add_lit,cell_of_row w1 b (off+j) row t fr (by rw[VW];exact hh)];rw[AI] at hv;split at hv
     . rw[AI] at hv;split at hv
       . simpa using hv
       . cases hv
     . cases hv
   . have:=hp i y j x hy hx;have Cv:i*sz+j<es.length*sz:=by
       have h1:=(Ao.1 hy).1;have h2:=(Ao.1 hx).1;exact II h1 (Ai _) (by have:=FJ y (AQ hy);omega)
     rw[Av,AI,if_pos Cv,AR];rwa[At,Nat.add_assoc,<-Bj] at this
theorem NU{es:List (List Pd)}{v:Value}(h:PR F w (.sl es) v){sz:Nat}(FJ:∀y∈es,y.length=sz)(FC:0<sz):∃news,Src P w F sz v es news:=by
 cases h with
 | Zq ad cap=>exact Lz (es:=[]) FJ (λ h=>(h rfl).elim)
 | sl _ b off cap Sc row t fr hF hh hc hs hi hp=>
   refine Lz FJ (λ h0=>?_);have Atm:0<es.length:=List.length_pos_iff.2 h0;have e0:es[0]?=some es[0]:=Az Atm;have hz:Sc=sz:=(hs 0 _ e0).symm.trans (FJ _ (AN Atm));subst hz;refine ⟨b,off,row,t,fr,rfl,hh,?_,hp⟩;have el:es[es.length - 1]?=some es[es.length - 1]:=Az (by omega);have hl:=hs _ _ el;have:=hi _ _ (Sc - 1) _ el (Az (by omega));have e2:es.length*Sc=(es.length - 1)*Sc+Sc:=by rw[<-Nat.succ_mul];congr 1;omega
   omega
theorem Aat(l:List UInt8){sz:Nat}(FJ:∀y∈EH l,y.length=sz):Src P w F sz (.string ⟨l.toArray⟩) (EH l) (l.map λ b=>Value.int .u8 b.toNat):=by
 have hlen:(EH l).length=l.length:=by simp[EH]
 have hs:l.length*sz=l.length:=by
   cases l with
   | nil=>simp
   | cons b r=>have:=FJ [Pd.int .u8 b.toNat] (by simp[EH]);simp at this;subst this;simp
 refine ⟨λ w1=>by simp[Builtin.lenOf,hlen,HB],λ w1 _=>?_,λ n hn w1 _=>?_,by simp[hlen,hs],λ i y j x hy hx=>?_⟩
 . simp only[Builtin.firstCells,hlen,Sem.run_pure]
   congr 1
   apply Array.ext';simp
 . have hns:n*sz=n:=by
     cases l with
     | nil=>simp[EH] at hn;simp[hn]
     | cons b r=>have:=FJ [Pd.int .u8 b.toNat] (by simp[EH]);simp at this;subst this;simp
   simp only[Builtin.firstCells,hns,Sem.run_pure]
   congr 1
   apply Array.ext';simp[BN]
 . simp only[EH,AS] at hy;cases hb:l[i]? with
   | none=>rw[hb] at hy;cases hy
   | some b=>
     rw[hb] at hy;simp only[Bk,Al] at hy;subst hy;cases j with
     | succ j=>simp at hx
     | zero=>
       simp only[AK,Al] at hx;subst hx;have hz:sz=1:=by
         have:=FJ [Pd.int .u8 b.toNat] (by simp only[EH,AU];exact ⟨b,AQ hb,rfl⟩)
         simpa using this.symm
       subst hz;simp only[Nat.mul_one,Bu];rw[Av,AS,hb];exact .int _ _
theorem OL{α:Type}{x:α}{l:List α}{n m:Nat}(h:x∈(l.drop n).take m):x∈l:=List.mem_of_mem_drop (Bv h)
theorem O4(hr:HR F w M st.hp){id off len sz:Nat}{es:List (List Pd)}{v:Value}(hg:(∃t,get st.hp id=some (.arr t sz es))∨get st.hp id=some (.Nw sz es))
   (h:Sk (M id) sz es.length off len v):∃news,Src P w F sz v ((es.drop off).take len) news:=by
 obtain ⟨ad,cap,rfl,h1,h2,h3,h4⟩:=h;obtain ⟨h5,h6,h7,h8⟩:=hr.row hg;have hlen:((es.drop off).take len).length=len:=by simp;omega
 have Cx:∀(i:Nat) e,((es.drop off).take len)[i]?=some e->es[off+i]?=some e:=λ i e he=>by
   rw[AI] at he;split at he
   . rwa[AR] at he
   . cases he
 have key:=Lz (P:=P) (w:=w) (F:=F) (es:=(es.drop off).take len) (ad:=ad) (cap:=cap) (sz:=sz) (λ y hy=>by
   obtain ⟨i,hi⟩:=A4.1 (OL hy);exact h7 i y hi) (λ h0=>by
   have hl0:0<len:=by
     rcases BT len with h | h
     . subst h;simp at h0
     . exact h
   have h9:=h4.resolve_left (by omega);subst h9;obtain ⟨row,t,fr,LX,h11,QE⟩:=h8 (by omega);refine ⟨_,_,row,t,fr,rfl,LX,?_,λ i e j x he hx=>?_⟩
   . rw[hlen,h11,<-A2];exact Bh _ (by omega)
   . have:=QE _ e j x (Cx i e he) hx;rwa[A2] at this)
 rw[hlen] at key;exact key
theorem O5(hr:Rel c st a w F M){d:D}{v:Value}(hd:DR F w M (sg st.hp) d v){k:List (List Pd)->Prop}(h:LA st.hp d k):
   ∃ys,k ys/\∀sz,0<sz->(∀y∈ys,y.length=sz)->∃news,Src P w F sz v ys news:=by
 have ref:∀{id off len N Sc n} {es:List (List Pd)},((∃t,get st.hp id=some (.arr t Sc es))∨get st.hp id=some (.Nw Sc es))->sg st.hp id=some (.arr Sc es.length)->N=es.length->
     DR F w M (sg st.hp) (.ref id off len N) v->n=len->∀sz,0<sz->(∀y∈(es.drop off).take len,y.length=sz)->∃news,Src P w F sz v ((es.drop off).take len) news:=by
   intro id off len N Sc n es hg G7 hN hd _ sz FC FJ;cases hd with
   | ref _ _ _ _ Sb n2 _ hs hN2 hv h2=>
     rw[G7] at hs;simp only[Al,Sg.arr.injEq] at hs;obtain ⟨rfl,rfl⟩:=hs;have Qx:=h2 hN;by_cases h0:(es.drop off).take len=[]
     . obtain ⟨ad,cap,rfl,h3,_⟩:=Qx;rw[h0];have:len=0:=by
         have:=congrArg List.length h0;simp at this;omega
       subst this;exact Lz (es:=[]) (by simp) (λ h=>(h rfl).elim)
     . obtain ⟨y,hy⟩:=List.exists_mem_of_ne_nil _ h0;have e1:=FJ y hy;obtain ⟨i,hi⟩:=A4.1 (OL hy);have e2:=(hr.heap.row hg).2.2.1 i y hi;have:Sc=sz:=by omega
       subst this;exact O4 hr.heap hg Qx
 unfold LA at h;split at h
 . rename_i ys;cases hd with | p hx=>exact ⟨ys,h,λ sz FC FJ=>NU hx FJ FC⟩
 . rename_i l;cases hd with | p hx=>cases hx;exact ⟨_,h,λ sz _ FJ=>⟨_,Aat l FJ⟩⟩
 . rename_i ys;cases hd with | cl _ ad hx _=>exact ⟨ys,h,λ sz FC FJ=>NU hx FJ FC⟩
 . rename_i id off len N;split at h
   . rename_i t Sc es ho;exact ⟨_,h.2,ref (n:=len) (.inl ⟨t,ho⟩) (CY ho) h.1 hd rfl⟩
   . rename_i Sc es ho;exact ⟨_,h.2,ref (n:=len) (.inr ho) (CY ho) h.1 hd rfl⟩
   . exact h.elim
 . exact h.elim
theorem Gj(z:Array Value)(n:Nat):(Builtin.zeroCells z n).size=n*z.size:=by simp[Builtin.zeroCells]
theorem He{es ys:List (List Pd)}{sz:Nat}{HK news rest:List Value}(Tp:HK.length=es.length*sz)(OA:news.length=ys.length*sz)
   (J8:∀(i:Nat) e,es[i]?=some e->e.length=sz) (Ox:∀(i:Nat) e,ys[i]?=some e->e.length=sz)
   (ho:∀(i:Nat) y (j:Nat) x,es[i]?=some y->y[j]?=some x->PR F w x (HK.getD (i*sz+j) undef))
   (hn:∀(i:Nat) y (j:Nat) x,ys[i]?=some y->y[j]?=some x->PR F w x (news.getD (i*sz+j) undef)) (i:Nat) (y:List Pd) (j:Nat) (x:Pd)
   (hy:(es++ys)[i]?=some y) (hx:y[j]?=some x):PR F w x ((HK++news++rest).getD (i*sz+j) undef):=by
 have hj:=(Ao.1 hx).1;rw[AL] at hy;rw[A9,Av];split at hy
 . rename_i Cv;have:=II Cv (Ai _) (show j<sz by have:=J8 i y hy;omega);rw[AW (by omega),<-Av];exact ho i y j x hy hx
 . rename_i hge;have Cv:=(Ao.1 hy).1;have h1:=II Cv (Ai _) (show j<sz by have:=Ox _ y hy;omega);have h2:es.length*sz<=i*sz:=Bh _ (by omega);have h3:i*sz+j - es.length*sz=(i - es.length)*sz+j:=by rw[Nat.sub_mul];omega
   rw[A1 (by omega),Tp,h3,AW (by omega),<-Av];exact hn _ y j x hy hx
theorem GA(v:Value):(Jd v).cells.length=v.cells.size:=by
 have hl:∀l:List Value,(Ou l).length=l.length:=λ l=>by
   induction l with
   | nil=>rfl
   | cons v r ih=>simp[Ou,ih]
 cases v with
 | agg cs=>simp[Jd,D.cells,Value.cells,hl]
 | slice ad l q=>cases ad<;>(try cases l)<;>(try cases q)<;>simp[Jd,D.cells,Value.cells]
 | pointer q=>cases q<;>simp[Jd,D.cells,Value.cells]
 | _=>simp[Jd,D.cells,Value.cells]
theorem Rel.T6(hr:Rel c st a w F M){q sz:Nat}{e:TypeId}(hn:get st.hp q=none)(FJ:0<sz):
   Rel c {st with hp:=(q,.arr e sz [])::st.hp} a w F (FU M q ⟨0,0,[]⟩)/\∀ad,DR F w (FU M q ⟨0,0,[]⟩) (sg ((q,.arr e sz [])::st.hp)) (.ref q 0 0 0) (.slice ad 0 0):=by
 have Cx:=LZ st.hp q (.arr e sz []);have hM:∀j,j≠q->FU M q ⟨0,0,[]⟩ j=M j:=λ j hj=>by simp[FU,hj]
 have J9:FU M q ⟨0,0,[]⟩ q=⟨0,0,[]⟩:=by simp[FU]
 have Hk:=G4 Cx hM hn;refine ⟨hr.change Cx hM Hk rfl rfl rfl (Ai _) (λ b hb _=>rfl) ?_ (λ b h=>?_),λ ad=>?_⟩
 . rw[J9];exact ⟨FJ,by simp,by simp,by simp,λ h=>(h rfl).elim⟩
 . rw[J9] at h;exact (h.1 rfl).elim
 . exact .ref q 0 0 0 sz 0 _ (by rw[C9 Cx];simp[AO.sg]) (Ai _) ⟨_,_,_,rfl⟩ (λ _=>⟨ad,0,rfl,by omega,by omega,by rw[J9],.inl rfl⟩)
theorem SR(hr:Rel c st a w F M){q t t2 ty:TypeId}{s x:D}{vs vx:Value}(hs:DR F w M (sg st.hp) s vs)(hx:DR F w M (sg st.hp) x vx){k:D->Hp->Prop}(hnr:∀id i len kk,s≠ .nr id i len kk)
   (h:Aaa P st.hp q t t2 s x k):∃d h' v w' M',k d h'/\Rel c {st with hp:=h'} a w' F M'/\DR F w' M' (sg h') d v/\(Builtin.append_ #[t,t2] ty #[vs,vx]).run P w= .ok v w':=by
 unfold Aaa at h;split at h
 case h_2=>exact h.elim
 rename_i _ _ _ _ e z0 ti2 h1 h2;obtain ⟨i1,u1,z1,Ii,Fq,hz1,e1⟩:=Ch h1;simp only[TI.mk.injEq] at e1;obtain rfl:=C4 e1.2.2.1.symm;obtain ⟨i2,u2,z2,Ea,KE,hz2,rfl⟩:=Ch h2;obtain ⟨IF,h⟩:=h;have PX:∀k,u2≠ .int k:=by rintro k rfl;simp[TK.of] at IF
 split at h
 case h_2=>exact h.elim
 rename_i ti h3;obtain ⟨i,u,z,hi,hu,hz,rfl⟩:=Ch h3;obtain ⟨ys,h',j0⟩:=O5 (P:=P) hr hx h;clear h;obtain ⟨Ox,FC,hzl,h⟩:=h';simp only at FC hzl Ox;rw[GA] at hzl;obtain ⟨news,Dr⟩:=j0 i.size FC Ox;have Ow:∀(j:Nat) e,ys[j]?=some e->e.length=i.size:=λ j e he=>Ox e (AQ he);have gr:∀{n cap:Nat},n+ys.length<=140737488355328->n+ys.length<=grownCap w (n+ys.length) cap e/\grownCap w (n+ys.length) cap e<=maxLen:=
   λ hle=>⟨grownCap_ge w _ _ _,grownCap_le_maxLen w _ _ _ (by unfold maxLen;omega)⟩
 split at h
 . rename_i es;obtain ⟨hn,hor,J8,k7,hle,hk⟩:=h;simp only at J8 k7;cases hs with
   | cl _ ad hp _=>
     obtain ⟨HK,holds⟩:=NU (P:=P) hp J8 FC;by_cases YX:ys=[]
     . subst YX;obtain rfl:es=[]:=by rcases hor with h | h<;>first | exact h | exact (h rfl).elim
       have OA:news=[]:=List.eq_nil_of_length_eq_zero (by simpa using Dr.size);subst OA;obtain ⟨J5,S4⟩:=hr.T6 (e:=e) hn FC;have DE:=GS (P:=P) (w:=w) (ty:=ty) (w':=w) Fq KE PX hi (base:=ad) (n:=0) (cap:=0) (Dr.len w) (Dr.cells w rfl) (by simp) (λ ad' _=>rfl) (λ _=>rfl);exact ⟨_,_,_,w,_,hk,J5,S4 ad,DE⟩
     . have hyl:0<ys.length:=List.length_pos_iff.2 YX;have DE:=Gl (P:=P) (w:=w) (ty:=ty) Fq KE PX hi hz (base:=ad) (n:=es.length) (cap:=es.length) (Dr.len w) (Dr.cells w.drew rfl)
         (by have:=holds.cells w.drew rfl;exact this) (by omega) hle k7
       obtain ⟨VC,k4⟩:=gr (n:=es.length) (cap:=es.length) hle;have hlen:(es++ys).length=es.length+ys.length:=by simp
       obtain ⟨J5,S4⟩:=hr.T7 (q:=q) (cap:=grownCap w (es.length+ys.length) es.length e) (sz:=i.size) (es:=es++ys) (e:=e)
         (vs:=HK.toArray++news.toArray++Builtin.zeroCells z.cells (grownCap w (es.length+ys.length) es.length e - (es.length+ys.length)))
         (w':=w.drew.alloc (.cells (HK.toArray++news.toArray++Builtin.zeroCells z.cells (grownCap w (es.length+ys.length) es.length e - (es.length+ys.length))) e))
         hn rfl rfl rfl rfl FC (by omega) k4 (λ j x hj=>by
           rw[AL] at hj;split at hj
           . exact J8 x (AQ hj)
           . exact Ow _ x hj) (by
           simp only[Array.size_append,List.size_toArray,Gj,hzl,holds.size,Dr.size,<-Nat.add_mul]
           congr 1;omega) (λ j y p x hy hx=>by
           have:=He (rest:=(Builtin.zeroCells z.cells (grownCap w (es.length+ys.length) es.length e - (es.length+ys.length))).toList) holds.size Dr.size
             (λ j e he=>J8 e (AQ he)) Ow holds.data Dr.data j y p x hy hx
           simpa [List.getD,Array.getD_eq_getD_getElem?,<-Array.getElem?_toList] using this)
       rw[hlen] at S4;exact ⟨_,_,_,_,_,hk,J5,by rw[hlen];exact S4,DE⟩
 . rename_i es;obtain ⟨hn,YX,J8,k7,hle,hk⟩:=h;simp only at J8 k7;cases hs with
   | cz _ ad hp=>
     obtain ⟨HK,holds⟩:=NU (P:=P) hp J8 FC;have hyl:0<ys.length:=List.length_pos_iff.2 YX;have DE:=Gl (P:=P) (w:=w) (ty:=ty) Fq KE PX hi hz (base:=ad) (n:=es.length) (cap:=es.length) (Dr.len w) (Dr.cells w.drew rfl)
       (by have:=holds.cells w.drew rfl;exact this) (by omega) hle k7
     obtain ⟨VC,k4⟩:=gr (n:=es.length) (cap:=es.length) hle;have hlen:(es++ys).length=es.length+ys.length:=by simp
     obtain ⟨J5,S4⟩:=hr.T7 (q:=q) (cap:=grownCap w (es.length+ys.length) es.length e) (sz:=i.size) (es:=es++ys) (e:=e)
       (vs:=HK.toArray++news.toArray++Builtin.zeroCells z.cells (grownCap w (es.length+ys.length) es.length e - (es.length+ys.length)))
       (w':=w.drew.alloc (.cells (HK.toArray++news.toArray++Builtin.zeroCells z.cells (grownCap w (es.length+ys.length) es.length e - (es.length+ys.length))) e))
       hn rfl rfl rfl rfl FC (by omega) k4 (λ j x hj=>by
         rw[AL] at hj;split at hj
         . exact J8 x (AQ hj)
         . exact Ow _ x hj) (by
         simp only[Array.size_append,List.size_toArray,Gj,hzl,holds.size,Dr.size,<-Nat.add_mul]
         congr 1;omega) (λ j y p x hy hx=>by
         have:=He (rest:=(Builtin.zeroCells z.cells (grownCap w (es.length+ys.length) es.length e - (es.length+ys.length))).toList) holds.size Dr.size
           (λ j e he=>J8 e (AQ he)) Ow holds.data Dr.data j y p x hy hx
         simpa [List.getD,Array.getD_eq_getD_getElem?,<-Array.getElem?_toList] using this)
     rw[hlen] at S4;exact ⟨_,_,_,_,_,hk,J5,by rw[hlen];exact S4,DE⟩
 . rename_i id off len N;split at h
   case h_2=>exact h.elim
   rename_i e' sz es ho;obtain ⟨rfl,rfl,rfl,rfl,rfl,k7,hle,hk⟩:=h;simp only at k7;have hob:=hr.heap.obj id _ ho;obtain ⟨_,Pt,hcm,J8,Pv⟩:=hob;simp only at J8 Pt;cases hs with
   | ref _ _ _ _ Sb n2 _ G7 hN2 hv h2=>
     rw[CY ho] at G7;simp only[AO.sg,Al,Sg.arr.injEq] at G7;obtain ⟨rfl,rfl⟩:=G7;obtain ⟨ad,cap,rfl,h5,h6,h7,h8⟩:=h2 rfl;simp only[Bf] at h7;subst h7;have hlen:(es++ys).length=es.length+ys.length:=by simp
     have DD:∀(j:Nat) x,(es++ys)[j]?=some x->x.length=i.size:=λ j x hj=>by
       rw[AL] at hj;split at hj
       . exact J8 j x hj
       . exact Ow _ x hj
     have Cx:∀j,get (Cz st.hp id (.arr e' i.size (es++ys))) j=if j=id then some (.arr e' i.size (es++ys)) else get st.hp j:=CU _ _ _
     have RJ:sg (Cz st.hp id (.arr e' i.size (es++ys))) id=some (.arr i.size (es++ys).length):=by rw[C9 Cx];simp[AO.sg]
     by_cases I3:es.length+ys.length<=(M id).cap
     ·
       have Hk:C1 M M (sg st.hp) (sg (Cz st.hp id (.arr e' i.size (es++ys)))):=by
         refine ⟨λ j hj=>?_,λ j s2 n2 hj=>?_,λ j s2 n2 k2 hj=>?_⟩
         . have e2:j≠id:=λ e2=>by rw[e2,CY ho] at hj;simp[AO.sg] at hj
           rw[C9 Cx,if_neg e2];exact ⟨hj,rfl⟩
         . by_cases e2:j=id
           . subst e2;rw[CY ho] at hj;simp only[AO.sg,Al,Sg.arr.injEq] at hj;obtain ⟨rfl,rfl⟩:=hj;exact ⟨_,RJ,by omega,λ _=>rfl⟩
           . rw[C9 Cx,if_neg e2];exact ⟨n2,hj,Ai _,λ _=>rfl⟩
         . have e2:j≠id:=λ e2=>by rw[e2,CY ho] at hj;simp[AO.sg] at hj
           rw[C9 Cx,if_neg e2];exact ⟨n2,k2,hj,Ai _,Ai _,λ _=>⟨rfl,rfl⟩,λ _=>rfl⟩
       have Oa:∀w',DR F w' M (sg (Cz st.hp id (.arr e' i.size (es++ys)))) (.ref id 0 (es++ys).length (es++ys).length) (.slice ad (es.length+ys.length) (M id).cap):=λ w'=>by
         rw[hlen] at RJ ⊢;exact .ref id 0 _ _ i.size _ _ RJ (Ai _) ⟨_,_,_,rfl⟩ (λ _=>⟨ad,_,rfl,by omega,I3,by omega,h8⟩)
       by_cases S5:(M id).cap=0
       . have YX:ys=[]:=AY (by omega);subst YX;have OA:news=[]:=List.eq_nil_of_length_eq_zero (by simpa using Dr.size);subst OA;have DE:=GS (P:=P) (w:=w) (ty:=ty) (w':=w) Fq KE PX hi (base:=ad) (n:=es.length) (Dr.len w) (Dr.cells w rfl) I3 (λ ad' _=>rfl) (λ _=>rfl);refine ⟨_,_,_,w,M,hk,hr.change (M':=M) Cx (λ _ _=>rfl) Hk rfl rfl rfl (Ai _) (λ b hb _=>rfl) ⟨FC,by omega,hcm,DD,λ h=>(h S5).elim⟩ (λ b h=>(h.1 S5).elim),Oa w,DE⟩
       . obtain rfl:=h8.resolve_left S5;obtain ⟨Mn,row,Dq,GH,De⟩:=Pv S5;have Arv:es.length*i.size+ys.length*i.size<=row.size:=by rw[GH,<-A2];exact Bh _ I3
         have Ks:∀v∈news,v.oneCell'=true:=λ v hv=>by
           obtain ⟨p,hp⟩:=A4.1 hv;have Cv:=(Ao.1 hp).1;have hs:=Dr.size;have hdiv:p / i.size<ys.length:=Nat.div_lt_of_lt_mul (by rw[Nat.mul_comm];omega);have hy:ys[p / i.size]?=some ys[p / i.size]:=Az hdiv;have V1:p % i.size<(ys[p / i.size]).length:=by rw[Ow _ _ hy];exact Nat.mod_lt _ FC
           have:=(Dr.data _ _ _ _ hy (Az V1)).Jc;rwa[Nat.mul_comm,Nat.div_add_mod,Av,hp] at this
         have Mm:=Ew P (M id).DQ (es.length*i.size) e' news 0 row w Dq (by have:=Dr.size;omega) Ks;simp only[Bu] at Mm;have DE:=GS (P:=P) (w:=w) (ty:=ty) Fq KE PX hi (base:=some ⟨(M id).DQ,0*i.size,none⟩) (n:=es.length) (Dr.len w) (Dr.cells w rfl) I3
           (λ ad' e3=>by cases e3;rw[Addr.add_lit];simp only[Nat.zero_mul,Bf];exact Mm) (λ e3=>by cases e3)
         refine ⟨_,_,_,(w.setRow (M id).DQ (row.toList.take (es.length*i.size)++news++row.toList.drop (es.length*i.size+news.length)).toArray),M,hk,hr.change (M':=M) (w':=(w.setRow (M id).DQ (row.toList.take (es.length*i.size)++news++row.toList.drop (es.length*i.size+news.length)).toArray)) Cx (λ _ _=>rfl) Hk rfl rfl rfl (by simp) (λ b hb Dt=>setRow_other w _ b _ (λ e=>Dt _ ho ⟨S5,e⟩)) ?_ (λ b hb=> .inl ⟨_,ho,hb⟩),Oa _,DE⟩;have Hl:∀{x v},PR F w x v->PR F (w.setRow (M id).DQ (row.toList.take (es.length*i.size)++news++row.toList.drop (es.length*i.size+news.length)).toArray) x v:=
           λ h=>h.CW (λ b hb=>setRow_other w _ b _ (λ e=>Mn (e ▸ hb))) (λ _ h=>h)
         have Tp:(row.toList.take (es.length*i.size)).length=es.length*i.size:=by simp;omega
         refine ⟨FC,by omega,hcm,DD,λ _=>⟨Mn,_,Dq.set ?_,?_,λ j y p x hy hx=>?_⟩⟩
         . have QE:=Dr.size;have h13:(row.toList.take (es.length*i.size)++news++row.toList.drop (es.length*i.size+news.length)).length=row.size:=by
             simp only[Aq,A8,BM,Array.length_toList];omega
           exact h13
         . have QE:=Dr.size;have h13:(row.toList.take (es.length*i.size)++news++row.toList.drop (es.length*i.size+news.length)).length=row.size:=by
             simp only[Aq,A8,BM,Array.length_toList];omega
           exact h13.trans GH
         . have:=He (F:=F) (w:=w) (rest:=row.toList.drop (es.length*i.size+news.length)) Tp Dr.size J8 Ow (λ j y p x hy hx=>by
             have h9:=De j y p x hy hx;have Cv:=II (Ao.1 hy).1 (Ai _) (show p<i.size by have:=(Ao.1 hx).1;have:=J8 j y hy;omega);rw[Av,AI,if_pos Cv];rwa[At,<-Bj] at h9) Dr.data j y p x hy hx
           have LX:=Hl this;rw[At,List.getElem?_toArray];rwa[Av] at LX
     ·
       have hyl:0<ys.length:=by omega
       have Ac3:Sk (M id) i.size es.length 0 es.length (.slice ad es.length (M id).cap):=⟨ad,_,rfl,by omega,h6,by omega,h8⟩;obtain ⟨HK,holds⟩:=O4 (P:=P) hr.heap (.inl ⟨e',ho⟩) Ac3;have Am0:(es.drop 0).take es.length=es:=by simp
       rw[Am0] at holds;have DE:=Gl (P:=P) (w:=w) (ty:=ty) Fq KE PX hi hz (base:=ad) (n:=es.length) (cap:=(M id).cap) (Dr.len w) (Dr.cells w.drew rfl)
         (by have:=holds.cells w.drew rfl;exact this) (by omega) hle k7
       obtain ⟨VC,k4⟩:=gr (n:=es.length) (cap:=(M id).cap) hle;have hM:∀j,j≠id->FU M id ⟨w.heap.size,grownCap w (es.length+ys.length) (M id).cap e',[]⟩ j=M j:=λ j hj=>by simp[FU,hj]
       have J9:FU M id ⟨w.heap.size,grownCap w (es.length+ys.length) (M id).cap e',[]⟩ id=⟨w.heap.size,grownCap w (es.length+ys.length) (M id).cap e',[]⟩:=by simp[FU]
       have Hk:C1 M (FU M id ⟨w.heap.size,grownCap w (es.length+ys.length) (M id).cap e',[]⟩) (sg st.hp) (sg (Cz st.hp id (.arr e' i.size (es++ys)))):=by
         refine ⟨λ j hj=>?_,λ j s2 n2 hj=>?_,λ j s2 n2 k2 hj=>?_⟩
         . have e2:j≠id:=λ e2=>by rw[e2,CY ho] at hj;simp[AO.sg] at hj
           rw[C9 Cx,if_neg e2,hM j e2];exact ⟨hj,rfl⟩
         . by_cases e2:j=id
           . subst e2;rw[CY ho] at hj;simp only[AO.sg,Al,Sg.arr.injEq] at hj;obtain ⟨rfl,rfl⟩:=hj;exact ⟨_,RJ,by omega,λ h=>by omega⟩
           . rw[C9 Cx,if_neg e2,hM j e2];exact ⟨n2,hj,Ai _,λ _=>rfl⟩
         . have e2:j≠id:=λ e2=>by rw[e2,CY ho] at hj;simp[AO.sg] at hj
           rw[C9 Cx,if_neg e2,hM j e2];exact ⟨n2,k2,hj,Ai _,Ai _,λ _=>⟨rfl,rfl⟩,λ _=>rfl⟩
       refine ⟨_,_,_,(w.drew.alloc (.cells (HK.toArray++news.toArray++Builtin.zeroCells z.cells (grownCap w (es.length+ys.length) (M id).cap e' - (es.length+ys.length))) e')),_,hk,hr.change (w':=(w.drew.alloc (.cells (HK.toArray++news.toArray++Builtin.zeroCells z.cells (grownCap w (es.length+ys.length) (M id).cap e' - (es.length+ys.length))) e'))) Cx hM Hk rfl rfl rfl (by simp) (λ b hb _=>alloc_old w.drew _ b hb) ?_ (λ b hb=> .inr (by have:b=_:=hb.2;rw[this,J9];exact Ai _)),?_,DE⟩
       . rw[J9];refine ⟨FC,by simp;omega,k4,DD,λ _=>⟨λ hF=>Nat.lt_irrefl _ (hr.CW.Fl _ hF),_,.of0 (heap_alloc_new w.drew _),?_,λ j y p x hy hx=>?_⟩⟩
         . simp only[Array.size_append,List.size_toArray,Gj,hzl,holds.size,Dr.size,<-Nat.add_mul]
           congr 1;omega
         . have:=He (F:=F) (w:=w) (rest:=(Builtin.zeroCells z.cells (grownCap w (es.length+ys.length) (M id).cap e' - (es.length+ys.length))).toList) holds.size Dr.size
             J8 Ow holds.data Dr.data j y p x hy hx
           have h11:PR F w x ((HK.toArray++news.toArray++Builtin.zeroCells z.cells (grownCap w (es.length+ys.length) (M id).cap e' - (es.length+ys.length))).getD (j*i.size+p) undef):=by
             simpa [List.getD,Array.getD_eq_getD_getElem?,<-Array.getElem?_toList] using this
           exact h11.CW (λ b hb=>alloc_old w.drew _ b (hr.CW.Fl b hb)) (λ _ h=>h)
       . rw[hlen] at RJ ⊢;exact .ref id 0 _ _ i.size _ _ RJ (Ai _) ⟨_,_,_,rfl⟩ (λ _=>⟨_,_,rfl,by omega,VC,by rw[J9];exact Bf _,.inr (by rw[J9];simp)⟩)
 . exact (hnr _ _ _ _ rfl).elim
 . exact h.elim
theorem w8(hr:Rel c st a w F M){t t2 ty:TypeId}{s x:D}{vs vx:Value}(hs:DR F w M (sg st.hp) s vs)(hx:DR F w M (sg st.hp) x vx){k:D->Hp->Prop}
   (h:w9 P st.hp t s x k):∃d h' v w' M',k d h'/\Rel c {st with hp:=h'} a w' F M'/\DR F w' M' (sg h') d v/\(Builtin.copy_ #[t,t2] ty #[vs,vx]).run P w= .ok v w':=by
 unfold w9 at h;split at h
 case h_2=>exact h.elim
 rename_i _ _ _ e z0 h1;obtain ⟨i1,u1,z1,Ii,Fq,hz1,e1⟩:=Ch h1;simp only[TI.mk.injEq] at e1;obtain rfl:=C4 e1.2.2.1.symm;split at h
 case h_2=>exact h.elim
 rename_i ti h3;obtain ⟨i,u,z,hi,hu,hz,rfl⟩:=Ch h3;obtain ⟨ys,h',j0⟩:=O5 (P:=P) hr hx h;clear h;obtain ⟨Ox,FC,h⟩:=h';simp only at FC Ox;obtain ⟨news,Dr⟩:=j0 i.size FC Ox;have Ow:∀(j:Nat) e,ys[j]?=some e->e.length=i.size:=λ j e he=>Ox e (AQ he);split at h
 case h_2=>exact h.elim
 rename_i id off len N;split at h
 case h_2=>exact h.elim
 rename_i e' sz es ho;obtain ⟨rfl,hle,rfl,hk⟩:=h;have hob:=hr.heap.obj id _ ho;obtain ⟨_,Pt,hcm,J8,Pv⟩:=hob;simp only at J8 Pt;cases hs with
 | ref _ _ _ _ Sb n2 _ G7 hN2 hv h2=>
   rw[CY ho] at G7;simp only[AO.sg,Al,Sg.arr.injEq] at G7;obtain ⟨rfl,rfl⟩:=G7;obtain ⟨ad,cap,rfl,h5,h6,h7,h8⟩:=h2 rfl;generalize hm:min len ys.length=m at hk;have hml:m<=len:=by omega
   have hmy:m<=ys.length:=by omega
   have Z9:ys.take len=ys.take m:=by
     rcases Nat.le_total len ys.length with h9 | h9
     . rw[show m=len by omega]
     . rw[AA h9,AA (by omega)]
   rw[Z9] at hk;have OA:(es.take off++ys.take m++es.drop (off+m)).length=es.length:=by simp;omega
   have Cx:∀j,get (Cz st.hp id (.arr e' i.size (es.take off++ys.take m++es.drop (off+m)))) j=if j=id then some (.arr e' i.size (es.take off++ys.take m++es.drop (off+m))) else get st.hp j:=CU _ _ _
   have Nj:sg (Cz st.hp id (.arr e' i.size (es.take off++ys.take m++es.drop (off+m))))=sg st.hp:=DJ Cx ho (by simp only[AO.sg,OA]);have Hk:C1 M M (sg st.hp) (sg (Cz st.hp id (.arr e' i.size (es.take off++ys.take m++es.drop (off+m))))):=by rw[Nj];exact C1.refl _ _
   have DD:∀(j:Nat) x,(es.take off++ys.take m++es.drop (off+m))[j]?=some x->x.length=i.size:=λ j x hj=>by
     have Fe:=AQ hj;rcases Aw.1 Fe with h9 | h9
     . rcases Aw.1 h9 with LX | LX
       . obtain ⟨q,hq⟩:=A4.1 (Bv LX);exact J8 q x hq
       . exact Ox x (Bv LX)
     . obtain ⟨q,hq⟩:=A4.1 (List.mem_of_mem_drop h9);exact J8 q x hq
   have Ads:∀w1:World,(Builtin.lenOf vx).run P w1= .ok ys.length w1:=Dr.len;have j6:Nat.min ys.length len=m:=by rw[<-hm];exact Nat.min_comm _ _
   have Mv:=Dr.pre m hmy w rfl;by_cases S5:m=0
   . subst S5;have Ay1:es.take off++ys.take 0++es.drop (off+0)=es:=by simp
     refine ⟨_,_,_,w,M,hk,hr.change (M':=M) Cx (λ _ _=>rfl) Hk rfl rfl rfl (Ai _) (λ b hb _=>rfl) ?_ (λ b hb=> .inl ⟨_,ho,hb⟩),.p (.int .i64 _),?_⟩
     . have LX:=hr.heap.obj id _ ho;rw[<-Nj] at LX;have h11:(AO.arr e' i.size (es.take off++ys.take 0++es.drop (off+0)))=AO.arr e' i.size es:=by rw[Ay1]
       exact h11 ▸ LX
     . cases ad<;>simp[Builtin.copy_,run_underlying Fq,Ads,sizeOf,typeInfo,hi,j6,Mv,storeCells,goInt]
   . have Atq:(M id).cap≠0:=by omega
     obtain rfl:=h8.resolve_left (by omega);obtain ⟨Mn,row,Dq,GH,De⟩:=Pv Atq;simp only at GH De;have Bbk:=Dr.size;have VX:(news.take (m*i.size)).length=m*i.size:=by rw[A8,Bbk];exact Nat.min_eq_left (Bh _ hmy)
     have Arv:off*i.size+m*i.size<=row.size:=by rw[GH,<-A2];exact Bh _ (by omega)
     have Ks:∀v∈news.take (m*i.size),v.oneCell'=true:=λ v hv=>by
       obtain ⟨p,hp⟩:=A4.1 (Bv hv);have Cv:=(Ao.1 hp).1;have hdiv:p / i.size<ys.length:=Nat.div_lt_of_lt_mul (by rw[Nat.mul_comm];omega);have hy:ys[p / i.size]?=some ys[p / i.size]:=Az hdiv;have V1:p % i.size<(ys[p / i.size]).length:=by rw[Ow _ _ hy];exact Nat.mod_lt _ FC
       have:=(Dr.data _ _ _ _ hy (Az V1)).Jc;rwa[Nat.mul_comm,Nat.div_add_mod,Av,hp] at this
     have Mm:=Ew P (M id).DQ (off*i.size) e' (news.take (m*i.size)) 0 row w Dq (by rw[VX];omega) Ks;simp only[Bu,VX] at Mm;have Hl:∀{x v},PR F w x v->PR F (w.setRow (M id).DQ (row.toList.take (off*i.size)++news.take (m*i.size)++row.toList.drop (off*i.size+m*i.size)).toArray) x v:=
       λ h=>h.CW (λ b hb=>setRow_other w _ b _ (λ e=>Mn (e ▸ hb))) (λ _ h=>h)
     refine ⟨_,_,_,(w.setRow (M id).DQ (row.toList.take (off*i.size)++news.take (m*i.size)++row.toList.drop (off*i.size+m*i.size)).toArray),M,hk,
       hr.change (M':=M) (w':=(w.setRow (M id).DQ (row.toList.take (off*i.size)++news.take (m*i.size)++row.toList.drop (off*i.size+m*i.size)).toArray)) Cx (λ _ _=>rfl) Hk rfl rfl rfl (by simp) (λ b hb Dt=>setRow_other w _ b _ (λ e=>Dt _ ho ⟨Atq,e⟩)) ?_ (λ b hb=> .inl ⟨_,ho,hb⟩),.p (.int .i64 _),?_⟩
     . have Tp:(row.toList.take (off*i.size)).length=off*i.size:=by simp;omega
       refine ⟨FC,by omega,hcm,DD,λ _=>⟨Mn,_,Dq.set ?_,?_,λ j y p x hy hx=>?_⟩⟩
       . have h13:(row.toList.take (off*i.size)++news.take (m*i.size)++row.toList.drop (off*i.size+m*i.size)).length=row.size:=by
           simp only[Aq,Tp,VX,BM,Array.length_toList];omega
         exact h13
       . have h13:(row.toList.take (off*i.size)++news.take (m*i.size)++row.toList.drop (off*i.size+m*i.size)).length=row.size:=by
           simp only[Aq,Tp,VX,BM,Array.length_toList];omega
         exact h13.trans GH
       . have hp:p<i.size:=by have:=(Ao.1 hx).1;have:=DD j y hy;omega
         have h20:PR F w x ((row.toList.take (off*i.size)++news.take (m*i.size)++row.toList.drop (off*i.size+m*i.size)).getD (j*i.size+p) undef):=by
           rw[Av];rcases Nat.lt_or_ge j off with h9 | h9
           . have LX:j*i.size+p<off*i.size:=II h9 (Ai _) hp;have YW:es[j]?=some y:=by
               rw[AW (by simp;omega),AW (by simp;omega),AI,if_pos h9] at hy;exact hy
             rw[AW (by rw[Aq,Tp];omega),AW (by rw[Tp];exact LX),AI,if_pos LX];have:=De j y p x YW hx;rwa[At,<-Bj] at this
           . rcases Nat.lt_or_ge j (off+m) with h11 | h11
             . obtain ⟨q,rfl⟩:∃q,j=off+q:=⟨j - off,by omega⟩;have hq:q<m:=by omega
               have LX:q*i.size+p<m*i.size:=II hq (Ai _) hp;have YW:ys[q]?=some y:=by
                 rw[AW (by simp;omega),A1 (by simp;omega),AI] at hy;have e9:off+q - (es.take off).length=q:=by simp;omega
                 rw[e9,if_pos hq] at hy;exact hy
               have e8:(off+q)*i.size+p=off*i.size+(q*i.size+p):=by rw[A2];omega
               rw[e8,AW (by rw[Aq,Tp,VX];omega),A1 (by rw[Tp];omega),Tp,A3,AI,if_pos LX];have:=Dr.data q y p x YW hx;rwa[Av] at this
             . obtain ⟨q,rfl⟩:∃q,j=off+m+q:=⟨j - (off+m),by omega⟩;have YW:es[off+m+q]?=some y:=by
                 have e9:(es.take off++ys.take m).length=off+m:=by simp;omega
                 rw[A1 (by rw[e9];omega),e9,A3,AR] at hy;exact hy
               have e8:(off+m+q)*i.size+p=off*i.size+m*i.size+(q*i.size+p):=by rw[A2,A2];omega
               rw[e8,A1 (by rw[Aq,Tp,VX];omega),Aq,Tp,VX,A3,AR,<-e8];have:=De _ y p x YW hx;rwa[At,<-Bj] at this
         have LX:=Hl h20;rw[At,List.getElem?_toArray];rwa[Av] at LX
     . simp[Builtin.copy_,run_underlying Fq,Ads,sizeOf,typeInfo,hi,j6,Mv,Mm,goInt]
theorem Aet{h:Hp}{x:D}{k:List (List Pd)->Prop}(hh:LA h x k):∃ys,k ys:=by
 unfold LA at hh;split at hh
 . exact ⟨_,hh⟩
 . exact ⟨_,hh⟩
 . exact ⟨_,hh⟩
 . split at hh
   . exact ⟨_,hh.2⟩
   . exact ⟨_,hh.2⟩
   . exact hh.elim
 . exact hh.elim
theorem Aau{h h':Hp}{x:D}{k k':List (List Pd)->Prop}(hg:∀j o,get h j=some o->(∃t sz es,o= .arr t sz es)∨(∃sz es,o= .Nw sz es)->get h' j=some o)(hk:∀ys,k ys->k' ys)(hh:LA h x k):LA h' x k':=by
 unfold LA at hh ⊢;split at hh
 . exact hk _ hh
 . exact hk _ hh
 . exact hk _ hh
 . split at hh
   . rename_i h1;rw[hg _ _ h1 (.inl ⟨_,_,_,rfl⟩)];exact ⟨hh.1,hk _ hh.2⟩
   . rename_i h1;rw[hg _ _ h1 (.inr ⟨_,_,rfl⟩)];exact ⟨hh.1,hk _ hh.2⟩
   . exact hh.elim
 . exact hh.elim
theorem Acv(hr:Rel c st a w F M){q t t2 ty:TypeId}{s x:D}{vs vx:Value}(hs:DR F w M (sg st.hp) s vs)(hx:DR F w M (sg st.hp) x vx){k:D->Hp->Prop}
   (h:Aaa P st.hp q t t2 s x k):∃d h' v w' M',k d h'/\Rel c {st with hp:=h'} a w' F M'/\DR F w' M' (sg h') d v/\(Builtin.append_ #[t,t2] ty #[vs,vx]).run P w= .ok v w':=by
 by_cases hnr:∀id i len kk,s≠ .nr id i len kk
 . exact SR hr hs hx hnr h
 . have:∃id i len kk,s= .nr id i len kk:=by
     cases s with
     | nr id i len kk=>exact ⟨id,i,len,kk,rfl⟩
     | _=>exact (hnr (λ _ _ _ _=>by simp)).elim
   obtain ⟨id,i,len,kk,rfl⟩:=this;have Amk:∃t3 e' sz k2 rows,get st.hp id=some (.DF t3 e' sz k2 rows none)/\kk=k2/\len=(rows.getD i []).length/\i<rows.length/\get st.hp q=none:=by
     have h0:=h;unfold Aaa at h0;split at h0
     case h_2=>exact h0.elim
     obtain ⟨_,h0⟩:=h0;split at h0
     case h_2=>exact h0.elim
     obtain ⟨ys,_,_,_,h1⟩:=Aet h0;simp only at h1;split at h1
     . rename_i t3 e' sz k2 rows hg;exact ⟨t3,e',sz,k2,rows,hg,h1.1.2.2⟩
     . exact h1.elim
   obtain ⟨t3,e',sz,k2,rows,hg,rfl,rfl,hi,hq⟩:=Amk;have hir:rows[i]?=some (rows.getD i []):=by simp[List.getD,hi]
   obtain ⟨bc,hbc,Hk,HJ⟩:=hr.Bau hg hir hq;generalize hM1:(λ j=>if j=q then (⟨bc.1,bc.2,[]⟩:Mb) else if j=id then {(M id) with xs:=(M id).xs.set i (0,0)} else M j)=M1 at Hk HJ;have j4:q≠id:=λ e=>by rw[e,hg] at hq;cases hq
   have VY:sg ((q,AO.arr e' sz (rows.getD i []))::Cz st.hp id (.DF t3 e' sz (kk+1) rows (some i))) q=some (.arr sz (rows.getD i []).length):=by simp[sg,Cw,AO.sg]
   have Lw:DR F w M1 (sg ((q,AO.arr e' sz (rows.getD i []))::Cz st.hp id (.DF t3 e' sz (kk+1) rows (some i)))) (.ref q 0 (rows.getD i []).length (rows.getD i []).length) vs:=by
     cases hs with
     | nr _ _ _ _ Sb m k3 _ Pm hN hv hl=>
       have hs3:=CY hg;rw[Pm] at hs3;simp only[AO.sg,Al,Sg.DF.injEq] at hs3;obtain ⟨_,_,rfl⟩:=hs3;obtain ⟨bc2,g1,g2,ad,g3,g4⟩:=hl rfl;rw[hbc] at g1;cases g1;refine .ref q 0 _ _ sz _ vs VY (Ai _) ⟨_,_,_,g3⟩ (λ _=>⟨ad,bc.2,g3,by omega,g2,by rw[<-hM1];simp,?_⟩);rw[<-hM1]
       simpa using g4
   have IM:=hx.CW (w':=w) (λ _ _=>rfl) (λ _ h=>h) Hk;have Lb:get ((q,AO.arr e' sz (rows.getD i []))::Cz st.hp id (.DF t3 e' sz (kk+1) rows (some i))) q=some (.arr e' sz (rows.getD i [])):=by simp[Cw]
   have Axq:∀es,Cz ((q,AO.arr e' sz (rows.getD i []))::Cz st.hp id (.DF t3 e' sz (kk+1) rows (some i))) q (.arr e' sz es)=(q,.arr e' sz es)::Cz st.hp id (.DF t3 e' sz (kk+1) rows (some i)):=λ es=>by simp[Cz]
   refine SR (s:= .ref q 0 (rows.getD i []).length (rows.getD i []).length) (q:=q) HJ Lw IM (λ _ _ _ _=>by simp) ?_;unfold Aaa at h ⊢;split at h
   case h_2=>exact h.elim
   rename_i ht1 ht2;(try simp only[ht1,ht2]);obtain ⟨IF,h⟩:=h;refine ⟨IF,?_⟩;split at h
   case h_2=>exact h.elim
   refine Aau (λ j o hj ho=>?_) (λ ys Ox=>?_) h
   . have h1:j≠q:=λ e=>by rw[e,hq] at hj;cases hj
     have h2:j≠id:=λ e=>by
       rw[e,hg] at hj;cases hj;rcases ho with ⟨_,_,_,h3⟩ | ⟨_,_,h3⟩<;>cases h3
     rw[Cw,if_neg (Bc h1),CU,if_neg h2];exact hj
   . obtain ⟨y1,y2,y3,Ox⟩:=Ox;simp only at Ox;rw[hg] at Ox;obtain ⟨⟨y4,y5,_⟩,y6,y7,y8⟩:=Ox;refine ⟨y1,y2,y3,?_⟩;simp only[Lb];subst y4;refine ⟨trivial,trivial,trivial,rfl,y5,y6,y7,?_⟩;rw[Axq];exact y8
end
end Go.Am
namespace Go.Am
open Go
section
variable {P:Program} {c:Ctx} {st:St} {a:Act} {w:World} {F:Nat->Prop} {M:Nat->Mb}
theorem Al3{d:D}{k:Pd->Hp->Prop}(h:KW [] d k):∃x,k x []/\∀(F:Nat->Prop) (w:World) (M:Nat->Mb) (s:Nat->Option Sg) v,DR F w M s d v->PR F w x v:=by
 cases d with
 | p x=>exact ⟨x,h,λ F w M s v hd=>by cases hd with | p hx=>exact hx⟩
 | cl es=>exact ⟨_,h,λ F w M s v hd=>by cases hd with | cl _ ad hx _=>exact hx⟩
 | cz es=>exact ⟨_,h,λ F w M s v hd=>by cases hd with | cz _ ad hx=>exact hx⟩
 | _=>simp[KW,get] at h
theorem WC:∀{ds:List D} {k:List Pd->Hp->Prop},HP [] ds k->∃xs,k xs []/\xs.length=ds.length/\
   ∀(F:Nat->Prop) (w:World) (M:Nat->Mb) (s:Nat->Option Sg) (vs:List Value),KA F w M s ds vs->∀(i:Nat) x,xs[i]?=some x->PR F w x (vs.getD i undef)
 | [],k,h=>⟨[],h,rfl,λ _ _ _ _ _ _ i x hx=>by simp at hx⟩
 | d::ds,k,h=>by
   obtain ⟨x,h1,h2⟩:=Al3 h;obtain ⟨xs,h3,h4,h5⟩:=WC h1;refine ⟨x::xs,h3,by simp[h4],λ F w M s vs hd i y hy=>?_⟩;cases vs with
   | nil=>have:=hd.1;simp at this
   | cons v vs=>
     cases i with
     | zero=>
       simp only[AK,Al] at hy;subst hy;have:=hd.2 0 d rfl;exact h2 F w M s _ (by simpa [List.getD] using this)
     | succ i=>
       simp only[List.getElem?_cons_succ] at hy;have:=h5 F w M s vs ⟨by have:=hd.1;simpa using this,λ i e he=>by have:=hd.2 (i+1) e (by simpa using he);simpa [List.getD] using this⟩ i y hy
       simpa [List.getD] using this
def Azf(P:Program)(c:Ctx)(st:St)(a:Act)(w:World)(F:Nat->Prop)(o:Oper)(k:D->Hp->Prop):Prop:=
 ∃d h' v w' F' M',k d h'/\Rel c {st with hp:=h'} a w' F' M'/\(∀b,F b->F' b)/\DR F' w' M' (sg h') d v/\
   ((execOp a.eval o).run P w= .ok (.value v) w'∨(v=undef/\(execOp a.eval o).run P w= .ok .skip w'))
theorem Aev(hp:Hp)(id:Nat)(o o':AO):Cz (Cz hp id o) id o'=Cz hp id o':=by
 induction hp with
 | nil=>simp[Cz]
 | cons p r ih=>
   obtain ⟨j,x⟩:=p;by_cases h:j=id
   . subst h;simp[Cz]
   . simp[Cz,h,ih]
theorem T3(hr:Rel c st a w F M){id i n:Nat}{d:D}{vx vd:Value}(hx:DR F w M (sg st.hp) (.M9 id i n) vx)(hd:DR F w M (sg st.hp) d vd){k:Hp->Prop}(h:M6 st.hp id i n d k):
   ∃h' w' M' ad,k h'/\Rel c {st with hp:=h'} a w' F M'/\vx= .pointer (some ad)/\(storeCells ad vd.cells.toList).run P w= .ok () w':=by
 unfold M6 at h;split at h
 case h_2=>exact h.elim
 rename_i q off len N;split at h
 case h_2=>exact h.elim
 rename_i e2 Sb es t e sz k2 rows hole hq hg;obtain ⟨⟨rfl,rfl,rfl,rfl,rfl,rfl,hh⟩,hk⟩:=h;have j4:q≠id:=λ e=>by rw[e,hg] at hq;cases hq
 cases hx with
 | M9 _ _ _ sz1 m1 k1 b hs hN hi hb=>
   rw[CY hg] at hs;simp only[AO.sg,Al,Sg.DF.injEq] at hs;obtain ⟨rfl,rfl,rfl⟩:=hs;obtain ⟨rfl,Mx⟩:=hb rfl;cases hd with
   | ref _ _ _ _ sz3 n3 _ Pm hN2 Us Uz=>
     rw[CY hq] at Pm;simp only[AO.sg,Al,Sg.arr.injEq] at Pm;obtain ⟨rfl,rfl⟩:=Pm;obtain ⟨ad,cp,rfl,_,Pt,hoc,hor⟩:=Uz rfl;rw[Bf] at hoc;subst hoc;have De:(Value.slice ad es.length (M q).cap).cells.toList=[Value.slice ad es.length (M q).cap]:=rfl;rw[De];have fin:∀{hp1:Hp} {M1:Nat->Mb} {k1:Nat},Rel c {st with hp:=hp1} a w F M1->get hp1 id=some (.DF t e2 Sb k1 rows (some i))->get hp1 q=some (.arr e2 Sb es)->M1 q=M q->(M1 id).DQ=(M id).DQ->
         ∃w' M',Rel c {st with hp:=Cz (Cz hp1 id (.DF t e2 Sb (k1+1) (rows.set i es) none)) q (.Fv (I7 (.arr Sb (es.length+1))))} a w' F M'/\(storeCells ⟨(M id).DQ,i,none⟩ [Value.slice ad es.length (M q).cap]).run P w= .ok () w':=by
       intro hp1 M1 k1 HJ VC Uv J9 Kv;obtain ⟨w',h1,h2,row,h3,h4,h5⟩:=HJ.Ak1 (P:=P) VC hi (Value.slice ad es.length (M q).cap) rfl;have h6:=h2.fill VC hi Uv ⟨row,h3,ad,by rw[J9];exact h5,by rw[J9];simpa using hor⟩;rw[Kv] at h1;exact ⟨w',_,h6,h1⟩
     rcases hh with rfl | rfl
     . have HJ:=hr.drop hg hi;obtain ⟨w',M',h1,h2⟩:=fin HJ (by rw[CU,if_pos rfl]) (by rw[CU,if_neg j4];exact hq) (by simp[j4]) (by simp);rw[Aev] at h1;exact ⟨_,w',M',_,hk,h1,rfl,h2⟩
     . obtain ⟨w',M',h1,h2⟩:=fin hr hg hq rfl rfl;exact ⟨_,w',M',_,hk,h1,rfl,h2⟩
theorem XM(hr:Rel c st a w F M){t:TypeId}{x d:D}{vx vd:Value}(hx:DR F w M (sg st.hp) x vx)(hd:DR F w M (sg st.hp) d vd){k:Hp->Prop}(h:TC P st.hp t x d k):
   ∃h' w' F' M',k h'/\Rel c {st with hp:=h'} a w' F' M'/\(∀b,F b->F' b)/\(Instr.storeAt t vx vd).run P w= .ok () w':=by
 unfold TC at h;split at h
 case h_2=>exact h.elim
 rename_i ti ht;obtain ⟨i,u,z,hi,hu,hz,rfl⟩:=Ch ht;split at h
 case h_2=>exact h.elim
 rename_i cs Mm;obtain ⟨hcs,h1,V4⟩:=Ly hd Mm;obtain ⟨hlen,h⟩:=h;simp only at hlen;have hvs:vd.cells.size=i.size:=by have:=V4.1;simp at this;omega
 have run:∀{ad w'},vx= .pointer (some ad)->(storeCells ad vd.cells.toList).run P w= .ok () w'->(Instr.storeAt t vx vd).run P w= .ok () w':=by
   rintro ad w' rfl h3;simp[Instr.storeAt,Instr.sureAddr,storeVar,Dw hi,hvs,h3]
 split at h
 . rename_i id off;split at h
   case h_2=>exact h.elim
   rename_i bs ho;obtain ⟨hle,hk⟩:=h;cases hx with
   | ptr _ _ hs=>
     obtain ⟨w',h3,h4⟩:=hr.Ak2 (P:=P) ho V4 h1 hle;exact ⟨_,w',F,M,hk,h4,λ _ h=>h,run rfl h3⟩
 . rename_i id j q N;obtain ⟨xs,h',F',hk',J5,hF',hs',hl',IE⟩:=MY cs vd.cells.toList hr V4 h;split at hk'
   case h_2=>exact hk'.elim
   rename_i e sz es ho;obtain ⟨hN,hq,hk⟩:=hk';cases hx with
   | ea _ _ _ _ Sb n2 _ hs hN2 hv h2=>
     have N7:=CY ho;rw[hs',hs] at N7;simp only[AO.sg,Al,Sg.arr.injEq] at N7;obtain ⟨rfl,rfl⟩:=N7;obtain ⟨rfl,Cv⟩:=h2 hN;obtain ⟨w',h3,h4⟩:=J5.Ak3 (P:=P) ho Cv hl' IE hq;exact ⟨_,w',F',M,hk,h4,hF',run rfl h3⟩
 . obtain ⟨h',w',M',ad,hk,J5,rfl,h3⟩:=T3 (P:=P) hr hx hd h;exact ⟨h',w',F,M',hk,J5,λ _ h=>h,run rfl h3⟩
 . exact h.elim
theorem Agv(hr:Rel c st a w F M)(place:Nat->Option (Nat×Nat)){parts:List (Nat×Operand)}{n:Nat}{vs:Array Value}(hn:vs.size=n){cs:List D}
   (h:GZ place (List.replicate n .bad) (parts.map λ q=>(q.1,ev st q.2))=some cs):
   ∃vs',Instr.fill place vs (parts.map λ q=>(q.1,a.eval q.2))=some vs'/\KA F w M (sg st.hp) cs vs'.toList:=
 Pz hr place parts _ vs cs ⟨by simp[hn],λ i d hd=>by
   rw[Bo] at hd;split at hd
   . cases hd;exact .bad _
   . cases hd⟩ h
theorem Auq(t:TypeId)(cs:List D):SX (npT t cs) t=t:=by
 unfold SX npT;split<;>split<;>simp_all
theorem Tl{v:Value}(h:Jd v= .cl []):v= .slice none 0 0:=by
 unfold Jd at h;split at h<;>first | rfl | cases h
theorem ZL:∀(l:List Value) (j:Nat),(Ou l)[j]?=(l[j]?).map Jd
 | [],j=>by simp[Ou]
 | v::r,0=>by simp[Ou]
 | v::r,j+1=>by simp[Ou,ZL r j]
theorem Aiu(z:Value){j:Nat}(h:(Jd z).cells[j]?=some (.cl [])):z.cells.getD j undef= .slice none 0 0:=by
 have one:∀v:Value,[Jd v][j]?=some (.cl [])->(#[v]:Array Value).getD j undef= .slice none 0 0:=by
   intro v hv;cases j with
   | zero=>simp only[AK,Al] at hv;rw[Tl hv];rfl
   | succ j=>simp at hv
 cases z with
 | agg cs=>
   simp only[Jd,D.cells] at h;rw[ZL] at h;cases hc:cs.toList[j]? with
   | none=>rw[hc] at h;cases h
   | some v=>
     rw[hc] at h;simp only[Bk,Al] at h;rw[Tl h] at hc;simp only[Value.cells];rw[Bj] at hc;rw[At,hc];rfl
 | slice a l c=>
   refine one _ ?_;have:(Jd (.slice a l c)).cells=[Jd (.slice a l c)]:=by
     unfold Jd;split<;>first | rfl | (rename_i h0;cases h0)
   rwa[this] at h
 | pointer a=>
   refine one _ ?_;cases a<;>exact h
 | _=>exact one _ h
theorem XT{kk:KK}{key:Pd}(hf:kk.fit key=true):Instr.sameBits 10000 key.val key.val=true:=by
 cases kk<;>cases key<;>simp[KK.fit] at hf<;>simp[Instr.sameBits,Pd.val,MapKept.bytes_beq]
theorem Rel.Aur(hr:Rel c st a w F M){q:Nat}(hn:get st.hp q=none):
   Rel c {st with hp:=(q,.mp [])::st.hp} a (w.alloc (.map #[] 0)) F (FU M q ⟨w.heap.size,0,[]⟩)/\
   DR F (w.alloc (.map #[] 0)) (FU M q ⟨w.heap.size,0,[]⟩) (sg ((q,.mp [])::st.hp)) (.mv q) (.map (some w.heap.size)):=by
 have Cx:=LZ st.hp q (.mp []);have hM:∀j,j≠q->FU M q ⟨w.heap.size,0,[]⟩ j=M j:=λ j hj=>by simp[FU,hj]
 have J9:FU M q ⟨w.heap.size,0,[]⟩ q=⟨w.heap.size,0,[]⟩:=by simp[FU]
 have Hk:=G4 Cx hM hn;have hold:∀b,b<w.heap.size->(w.alloc (.map #[] 0)).heap[b]?=w.heap[b]?:=λ b hb=>alloc_old w _ b hb;refine ⟨hr.change Cx hM Hk rfl rfl rfl (by simp) (λ b hb _=>hold b hb) ?_ (λ b hb=> .inr (by have:b=_:=hb;rw[this,J9];exact Ai _)),?_⟩
 . rw[J9];refine ⟨λ hF=>Nat.lt_irrefl _ (hr.CW.Fl _ hF),⟨#[],0,heap_alloc_new w _,rfl⟩,by simp⟩
 . have:=DR.mv (F:=F) (w:=w.alloc (.map #[] 0)) (M:=FU M q ⟨w.heap.size,0,[]⟩) (s:=sg ((q,.mp [])::st.hp)) q (by rw[C9 Cx];simp[AO.sg]);rwa[J9] at this
theorem Yb(hr:Rel c st a w F M){t:TypeId}{m i x:D}{k:Hp->Prop}(h:Ud P st.hp t m i x k){vm vi vx:Value}(hm:DR F w M (sg st.hp) m vm)(hi:DR F w M (sg st.hp) i vi)(hx:DR F w M (sg st.hp) x vx):
   ∃h' w',k h'/\Rel c {st with hp:=h'} a w' F M/\(Instr.mapUpdate t vm vi vx).run P w= .ok () w':=by
 unfold Ud at h;split at h
 case h_2=>exact h.elim
 rename_i _ _ _ _ kk z id key y hmo;obtain ⟨kt,e,d,ii,zv,hu,hk,hd,Ea,hz,rfl,hzf⟩:=LN hmo;split at h
 case h_2=>exact h.elim
 rename_i l hg;obtain ⟨⟨hf,OC,hyf⟩,hkk⟩:=h;obtain ⟨Mn,⟨es,clock,hb,J8⟩,QA⟩:=hr.heap.obj id _ hg;have Cx:∀j,get (Cz st.hp id (.mp (KZ key y l))) j=if j=id then some (.mp (KZ key y l)) else get st.hp j:=CU _ _ _
 have G7:=DJ Cx hg rfl;cases hm with
 | mv _ hs=>
   cases hi with
   | p hi=>
     have hvi:vi=key.val:=by cases hi<;>first | rfl | (cases kk<;>simp[KK.fit] at hf)
     subst hvi;cases hx with
     | p hx=>
       have ME:vx=y.val:=by cases hx<;>first | rfl | simp[Pd.flat] at hyf
       subst ME;have hc:∀b,(Instr.checkKey b 10000 kt key.val).run P w= .ok () w:=λ b=>MapKept.run_checkKey hk (RF hd hf) b 9999;have hch:∀(OE:Array MapEntry) (YD:Nat),OE.toList.map (λ e=>(e.key,e.val))=(KZ key y l).map (λ p=>(p.1.val,p.2.val))->(∀p∈KZ key y l,p.2.flat=true)->
           Rel c {st with hp:=Cz st.hp id (.mp (KZ key y l))} a {w with heap:=w.heap.setIfInBounds (M id).DQ (.map OE YD)} F M:=by
         intro OE YD h1 h2;have E2:=MapKept.heap_set (o':= .map OE YD) hb;refine hr.change (M':=M) Cx (λ _ _=>rfl) (by rw[G7];exact C1.refl _ _) rfl rfl rfl (by simp) (λ b W1 Dt=>E2.2 b (Dt _ hg)) ⟨Mn,⟨OE,YD,E2.1,h1⟩,h2⟩ (λ b W1=> .inl ⟨_,hg,W1⟩)
       have Aru:∀p∈KZ key y l,p.2.flat=true:=by
         clear hch Cx G7 hkk J8 hg OC
         induction l with
         | nil=>intro p hp;simp[KZ] at hp;subst hp;exact hyf
         | cons q r ih=>
           intro p hp;simp only[KZ] at hp;split at hp
           . rcases AG.1 hp with rfl | hp
             . exact hyf
             . exact QA p (by simp[hp])
           . rcases AG.1 hp with rfl | hp
             . exact QA _ (by simp)
             . exact ih (λ p hp=>QA p (by simp[hp])) p hp
       rcases Na hd hf es.toList l 0 J8 OC with ⟨v,j,g1,g2,g3,⟨e0,g4,g5⟩,g6⟩ | ⟨g1,g2,g3⟩
       . refine ⟨_,_,hkk,hch (es.modify j λ e=>{e with key:=key.val,val:=y.val}) clock (by rw[Array.toList_modify];exact g6 y) Aru,?_⟩;have h4:es[j]?=some e0:=by simpa using g4
         simp[Instr.mapUpdate,run_underlying hu,MapKept.run_getObj_map hb,hc,MapKept.run_findKey hk g2,Result.andThen,h4,g5,Instr.keyThatStays,XT hf,MapKept.run_setObj_map _ hb]
       . refine ⟨_,_,hkk,hch (es.push {key:=key.val,val:=y.val,born:=clock}) (clock+1) (by simp[g3 y,J8]) Aru,?_⟩;simp[Instr.mapUpdate,run_underlying hu,MapKept.run_getObj_map hb,hc,MapKept.run_findKey hk g2,Result.andThen,MapKept.run_setObj_map _ hb]
theorem GB(hr:Rel c st a w F M){o:Oper}{q:Nat}{k:D->Hp->Prop}(h:mOp P st q o.op k):Azf P c st a w F o k:=by
 unfold mOp at h;split at h
 ·
   rename_i t ho;split at h
   case h_2=>exact h.elim
   rename_i ti ht;obtain ⟨i,u,z,hi,hu,hz,rfl⟩:=Ch ht;split at h
   case h_2=>exact h.elim
   rename_i cs Mm;obtain ⟨hcs,h1,V4⟩:=Ly (KX F w M (sg st.hp) z) Mm;obtain ⟨hn,hk⟩:=h;obtain ⟨h2,h3⟩:=hr.Alc t (npT t cs) (Auq t cs) hn V4 h1 (λ _ _ j hj=>Aiu z (hcs ▸ hj));refine ⟨_,_,_,_,F,_,hk,h2,λ _ h=>h,h3,.inl ?_⟩;simp[execOp,ho,Instr.alloc,JD hi hz,newVar,newRow]
 ·
   rename_i t x ho;split at h
   case h_2=>exact h.elim
   rename_i cs Mm;obtain ⟨hcs,h1,V4⟩:=Ly (Co hr x) Mm;obtain ⟨hn,hk⟩:=h;obtain ⟨h2,h3⟩:=hr.Alc t 0 rfl hn V4 h1 (Exa.zero _ _);refine ⟨_,_,_,_,F,_,hk,h2,λ _ h=>h,h3,.inl ?_⟩;simp[execOp,ho,Instr.box,newVar,newRow]
 ·
   rename_i t x y ho;obtain ⟨h',w',F',M',hk,h2,hF,h3⟩:=XM hr (Co hr x) (Co hr y) h;refine ⟨_,h',undef,w',F',M',hk,h2,hF,.Dv [] #[] rfl (λ i d hd=>by simp at hd),.inr ⟨rfl,?_⟩⟩;simp[execOp,ho,h3]
 ·
   rename_i t ho;obtain ⟨hn,hk⟩:=h;obtain ⟨h2,h3⟩:=hr.Aur hn;refine ⟨_,_,_,_,F,_,hk,h2,λ _ h=>h,h3,.inl ?_⟩;simp[execOp,ho,Instr.makeMap]
 ·
   rename_i t m i x ho;obtain ⟨h',w',hk,h2,h3⟩:=Yb hr h (Co hr m) (Co hr i) (Co hr x);refine ⟨_,h',undef,w',F,M,hk,h2,λ _ h=>h,.Dv [] #[] rfl (λ i d hd=>by simp at hd),.inr ⟨rfl,?_⟩⟩;simp[execOp,ho,h3]
 ·
   rename_i t n parts ho;split at h
   case h_2=>exact h.elim
   rename_i _ _ e z0 ht;obtain ⟨i1,u1,z1,Ii,Fq,hz1,e1⟩:=Ch ht;simp only[TI.mk.injEq] at e1;obtain rfl:=C4 e1.2.2.1.symm;split at h
   case h_2=>exact h.elim
   rename_i ti hte;obtain ⟨i,u,z,hi,hu,hz,rfl⟩:=Ch hte;obtain ⟨FC,Uy,h⟩:=h;simp only at FC Uy h;split at h
   case h_2=>exact h.elim
   rename_i cs hf;obtain ⟨vs',hf',V4⟩:=Agv hr _ (vs:=(Array.range (n*i.size)).map ((if n*i.size=0 then #[] else z.cells)[· % (if n*i.size=0 then #[] else z.cells).size]!)) (by simp) hf;obtain ⟨xs,h',F',⟨hn,hk⟩,J5,hF',hs',hl',IE⟩:=MY cs vs'.toList hr V4 h;have QA:cs.length=n*i.size:=by
     have:∀(ps:List (Nat×D)) (c0 c1:List D),GZ (λ j=>some (j*i.size,i.size)) c0 ps=some c1->c1.length=c0.length:=by
       intro ps
       induction ps with
       | nil=>intro c0 c1 h;simp[GZ] at h;rw[h]
       | cons p ps ih=>
         intro c0 c1 h;obtain ⟨j,d⟩:=p;simp only[GZ] at h;split at h
         . rename_i hc;rw[ih _ _ h];simp;omega
         . cases h
     have:=this _ _ _ hf
     simpa using this
   have VX:vs'.size=n*i.size:=by have:=V4.1;simp at this;omega
   have hxl:xs.length=n*i.size:=by simp at hl';omega
   obtain ⟨h2,h3⟩:=J5.T7 (q:=q) (cap:=n) (sz:=i.size) (es:=chunk i.size n xs) (e:=e) (vs:=vs') (w':=w.alloc (.cells vs' e)) hn rfl rfl rfl rfl FC (by rw[Jf];exact Ai _)
     (by unfold maxLen;have:n<=n*i.size:=Nat.le_mul_of_pos_right _ FC;omega) (λ j x hj=>by
       rw[Og] at hj;split at hj
       . rename_i Cv;cases hj;have:=II (j:=i.size - 1) Cv (Ai _) (show i.size - 1<i.size by omega);simp;omega
       . cases hj) VX (λ j x p y hj hp=>by
       rw[Og] at hj;split at hj
       . cases hj;rw[AI] at hp;split at hp
         . rw[AR] at hp;have:=IE _ y hp;rwa[Av,Bj,<-At] at this
         . cases hp
       . cases hj)
   rw[Jf] at h3;refine ⟨_,_,_,_,F',_,hk,h2,hF',h3,.inl ?_⟩;have hpm:(parts.map λ (i,x)=>(i,a.eval x)).toList=parts.toList.map λ q=>(q.1,a.eval q.2):=by simp
   have OA:¬(16777216<n*i.size):=by omega
   simp only[execOp,ho,Instr.buildSlice,Sem.run_bind,run_underlying Fq,Result.andThen_ok,Dw hi];by_cases h0:n*i.size=0
   . have e0:∀g:Nat->Value,(Array.range 0).map g=#[]:=λ g=>by simp[Array.range_zero']
     simp only[h0,AP,e0] at hf' ⊢;simp[hpm,hf',newRow,e0]
   . simp only[h0,Bb] at hf' ⊢;simp[OA,JD hi hz,hpm,hf',newRow]
 ·
   rename_i t l m ho;split at h
   case h_2=>exact h.elim
   rename_i _ _ e z0 k1 l' k2 m' ht hl hm;obtain ⟨i1,u1,z1,Ii,Fq,hz1,e1⟩:=Ch ht;simp only[TI.mk.injEq] at e1;obtain rfl:=C4 e1.2.2.1.symm;split at h
   case h_2=>exact h.elim
   rename_i ti hte;obtain ⟨i,u,z,hi,hu,hz,rfl⟩:=Ch hte;obtain ⟨FC,hn,⟨h0,hlm,k7,hle⟩,hzl,h⟩:=h;simp only at FC k7 hzl;obtain ⟨zs,hk,hzs,hzd⟩:=WC h;have hl':=Co hr l;have hm':=Co hr m;rw[hl] at hl';rw[hm] at hm';generalize VX:a.eval l=vl at hl';generalize hvm:a.eval m=vm at hm';cases hl' with | p hl'=>cases hl';cases hm' with | p hm'=>
     cases hm';have DE:=run_make (P:=P) w t e i z Fq hi hz k1 k2 l' m' h0 hlm (by rw[Int.mul_comm];omega) (by omega);rw[GA] at hzl;have hz0:KA F w M (sg st.hp) (Jd z).cells z.cells.toList:=by
       have:(Jd z).cells.all D.one=true∨∃cs,Jd z= .agg cs:=by
         cases hzz:Jd z with
         | agg cs=>exact .inr ⟨cs,rfl⟩
         | Dv cs=>rw[hzz] at h;simp[D.cells,HP,KW] at h
         | bad=>rw[hzz] at h;simp[D.cells,HP,KW] at h
         | _=>left;simp[D.cells,D.one]
       exact (KX F w M (sg st.hp) z).cells this
     have Bb7:=hzd F w M (sg st.hp) _ hz0;have Bb6:zs.length=i.size:=by rw[hzs,GA];exact hzl
     obtain ⟨h2,h3⟩:=hr.T7 (q:=q) (cap:=m'.toNat) (sz:=i.size) (es:=List.replicate l'.toNat zs) (e:=e) (vs:=madeCells z.cells (m'.toNat*i.size))
       (w':=w.alloc (.cells (madeCells z.cells (m'.toNat*i.size)) e)) hn rfl rfl rfl rfl FC (by simp;omega) (by unfold maxLen;omega)
       (λ j x hj=>by rw[Bo] at hj;split at hj<;>cases hj;exact Bb6) (size_madeCells _ _) (λ j x p y hj hp=>by
         rw[Bo] at hj;split at hj
         . rename_i Cv;cases hj;have h5:=Bb7 p y hp;have h6:=(Ao.1 hp).1;have h7:=II (j:=p) (sz:=i.size) (show j<m'.toNat by omega) (Ai _) (by omega);have h8:(j*i.size+p) % z.cells.size=p:=by rw[hzl,Nat.mul_comm,Nat.mul_add_mod];exact Nat.mod_eq_of_lt (by omega)
           have h9:(madeCells z.cells (m'.toNat*i.size)).getD (j*i.size+p) undef=z.cells[(j*i.size+p) % z.cells.size]!:=by
             simp[madeCells,At,h7]
           rw[h9,h8];have LX:p<z.cells.size:=by omega
           rw[Av,Bj,Array.getElem?_eq_getElem LX] at h5;rw[getElem!_pos z.cells p LX];exact h5
         . cases hj)
     rw[Bi] at h3;refine ⟨_,_,_,_,F,_,hk,h2,λ _ h=>h,h3,.inl ?_⟩;simp only[execOp,ho,VX,hvm,Sem.run_bind,DE,Result.andThen_ok,Sem.run_pure]
 . exact h.elim
end
end Go.Am
end
