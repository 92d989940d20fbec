/- Texts of this proof, what it rests on, merged: part A. -/
import Derived.WalkKit
import Derived.WalkLawsBesides
import Derived.Laws.StructEq
import Derived.Laws.BytesString
import Derived.Laws.Cells
import Derived.Lib.SliceRun
import Derived.MapKept
section
set_option linter.unusedVariables false
set_option linter.unusedSimpArgs false
namespace Go.Am
open Go
theorem Al:type_of% @Option.some.injEq:=@Option.some.injEq
theorem An:type_of% @List.getElem?_eq_some_iff:=@List.getElem?_eq_some_iff
theorem Ao:type_of% @Bool.and_eq_true:=@Bool.and_eq_true
theorem Aq:type_of% @decide_eq_true_eq:=@decide_eq_true_eq
theorem Ar:type_of% @List.length_cons:=@List.length_cons
theorem As:type_of% @Array.getD_eq_getD_getElem?:=@Array.getD_eq_getD_getElem?
theorem At:type_of% @List.take_length:=@List.take_length
theorem Au:type_of% @List.length_append:=@List.length_append
theorem Av:type_of% @List.mem_append:=@List.mem_append
theorem Aw:type_of% @List.mem_singleton:=@List.mem_singleton
theorem Ax:type_of% @List.getElem?_eq_getElem:=@List.getElem?_eq_getElem
theorem Ay:type_of% @List.getD_eq_getElem?_getD:=@List.getD_eq_getElem?_getD
theorem Az:type_of% @List.length_nil:=@List.length_nil
theorem AA:type_of% @List.mem_iff_getElem:=@List.mem_iff_getElem
theorem AB:type_of% @List.all_eq_true:=@List.all_eq_true
theorem AD:type_of% @List.map_cons:=@List.map_cons
theorem AE:type_of% @Nat.zero_le:=@Nat.zero_le
theorem AF:type_of% @List.mem_cons:=@List.mem_cons
theorem AG:type_of% @Nat.lt_succ_iff_lt_or_eq:=@Nat.lt_succ_iff_lt_or_eq
theorem AH:type_of% @List.getElem?_take:=@List.getElem?_take
theorem AI:type_of% @Bool.false_ne_true:=@Bool.false_ne_true
theorem AJ:type_of% @Bool.false_eq_true:=@Bool.false_eq_true
theorem AK:type_of% @List.getElem?_cons_zero:=@List.getElem?_cons_zero
theorem AL:type_of% @List.take_of_length_le:=@List.take_of_length_le
theorem AM:type_of% @if_true:=@if_true
theorem AN:type_of% @List.getElem?_append:=@List.getElem?_append
theorem AP:type_of% @List.mem_map:=@List.mem_map
theorem AQ:type_of% @List.getElem?_map:=@List.getElem?_map
theorem AR:type_of% @congrArg:=@congrArg
theorem AS:type_of% @List.getElem_mem:=@List.getElem_mem
theorem AT:type_of% @List.cons_append:=@List.cons_append
theorem AU:type_of% @List.mem_of_getElem?:=@List.mem_of_getElem?
theorem AV:type_of% @List.getElem?_drop:=@List.getElem?_drop
theorem AW:type_of% @List.getElem?_append_left:=@List.getElem?_append_left
theorem AX:type_of% @List.drop_eq_getElem_cons:=@List.drop_eq_getElem_cons
theorem AY:type_of% @Option.getD_some:=@Option.getD_some
theorem AZ:type_of% @Nat.not_lt_zero:=@Nat.not_lt_zero
theorem A0:type_of% @List.append_assoc:=@List.append_assoc
theorem A1:type_of% @List.eq_nil_of_length_eq_zero:=@List.eq_nil_of_length_eq_zero
theorem A2:type_of% @Nat.zero_add:=@Nat.zero_add
theorem A3:type_of% @List.getD_cons_zero:=@List.getD_cons_zero
theorem A4:type_of% @List.any_eq_true:=@List.any_eq_true
theorem A5:type_of% @List.length_set:=@List.length_set
theorem A6:type_of% @Nat.add_sub_cancel_left:=@Nat.add_sub_cancel_left
theorem A7:type_of% @Array.getElem?_eq_getElem:=@Array.getElem?_eq_getElem
theorem A8:type_of% @List.length_map:=@List.length_map
theorem A9:type_of% @if_false:=@if_false
theorem Ba:type_of% @Array.getElem?_eq_some_iff:=@Array.getElem?_eq_some_iff
theorem Bb:type_of% @List.getElem?_replicate:=@List.getElem?_replicate
theorem Bc:type_of% @List.mem_iff_getElem?:=@List.mem_iff_getElem?
theorem Bd:type_of% @Option.isSome_none:=@Option.isSome_none
theorem Be:type_of% @List.map_append:=@List.map_append
theorem Bf:type_of% @Nat.add_mul:=@Nat.add_mul
theorem Bg:type_of% @List.getElem?_append_right:=@List.getElem?_append_right
theorem Bh:type_of% @List.nil_append:=@List.nil_append
theorem Bi:type_of% @List.length_take:=@List.length_take
theorem Bj:type_of% @Nat.add_zero:=@Nat.add_zero
theorem Bk:type_of% @List.map_nil:=@List.map_nil
theorem Bl:type_of% @Bool.true_and:=@Bool.true_and
theorem Bm:type_of% @Ne.symm:=@Ne.symm
theorem Bn:type_of% @Option.map_some:=@Option.map_some
theorem Bo:type_of% @List.foldl_cons:=@List.foldl_cons
theorem Bp:type_of% @Bool.eq_iff_iff:=@Bool.eq_iff_iff
theorem Br:type_of% @List.mem_flatMap:=@List.mem_flatMap
theorem Bs:type_of% @List.findSome?_eq_none_iff:=@List.findSome?_eq_none_iff
theorem Bt:type_of% @List.nodup_append:=@List.nodup_append
theorem Bu:type_of% @Nat.mul_le_mul_right:=@Nat.mul_le_mul_right
theorem Bv:type_of% @List.pairwise_append:=@List.pairwise_append
theorem Bw:type_of% @Nat.le_trans:=@Nat.le_trans
theorem Bx:type_of% @Option.isSome_iff_exists:=@Option.isSome_iff_exists
theorem Bz:type_of% @List.map_take:=@List.map_take
theorem BA:type_of% @List.drop_length:=@List.drop_length
theorem BB:type_of% @decide_eq_false_iff_not:=@decide_eq_false_iff_not
theorem BC:type_of% @Option.map_eq_some_iff:=@Option.map_eq_some_iff
theorem BD:type_of% @List.map_set:=@List.map_set
theorem BE:type_of% @List.getElem?_set_self:=@List.getElem?_set_self
theorem BG:type_of% @List.drop_of_length_le:=@List.drop_of_length_le
theorem BH:type_of% @List.length_replicate:=@List.length_replicate
theorem BJ:type_of% @Array.getElem?_toList:=@Array.getElem?_toList
theorem BK:type_of% @Bool.decide_and:=@Bool.decide_and
theorem BL:type_of% @List.pairwise_cons:=@List.pairwise_cons
theorem BM:type_of% @Bool.true_eq_false:=@Bool.true_eq_false
theorem BN:type_of% @List.mem_of_mem_take:=@List.mem_of_mem_take
theorem BO:type_of% @List.mem_append_left:=@List.mem_append_left
theorem BP:type_of% @Int.le_refl:=@Int.le_refl
theorem BQ:type_of% @List.take_add_one:=@List.take_add_one
theorem BR:type_of% @List.getElem?_set:=@List.getElem?_set
theorem BS:type_of% @Bool.not_eq_true':=@Bool.not_eq_true'
theorem BT:type_of% @Bool.or_eq_true:=@Bool.or_eq_true
theorem BU:type_of% @List.getElem?_toArray:=@List.getElem?_toArray
theorem BV:type_of% @Nat.eq_zero_or_pos:=@Nat.eq_zero_or_pos
theorem Aa{α β:Type _}(a:α)(f:α->Option β):Option.bind (some a) f=f a:=rfl
theorem Ab(n:Nat):(n:Int).toNat=n:=Int.toNat_natCast n
theorem Ac{α:Type _}{a b:α}(h:some a=some b):a=b:=Option.some.inj h
theorem Ad{p:Prop}[inst:Decidable p](h:decide p=true):p:=of_decide_eq_true h
theorem Ae{p:Prop}[inst:Decidable p](h:decide p=false):¬p:=of_decide_eq_false h
theorem Ag{p:Prop}[inst:Decidable p](h:p):decide p=true:=decide_eq_true h
theorem Ah{p:Prop}[inst:Decidable p](h:¬p):decide p=false:=decide_eq_false h
theorem Ai(n:Nat):n<=n:=Nat.le_refl n
theorem Aj{α:Type _}(a b:α):cond false a b=b:=rfl
theorem Ak{α:Type _}(a b:α):cond true a b=a:=rfl
inductive Pd where
 | int (k:IntKind) (n:Int)
 | bool (b:Bool)
 | str (l:List UInt8)
 | sl (es:List (List Pd))
inductive D where
 | p (x:Pd)
 | agg (cs:List D)
 | Dg (cs:List D)
 | cl (es:List (List Pd))
 | cz (es:List (List Pd))
 | ref (id off len N:Nat)
 | ptr (id off:Nat)
 | pe (cs:List Pd)
 | ea (id i c N:Nat)
 | fn (f:FuncId) (cap:List D)
 | np
 | mv (id:Nat)
 | Di (id n:Nat)
 | LL (id i n:Nat)
 | nr (id i len k:Nat)
 | Qs
 | bad
def Pd.val:Pd->Value
 | .int k n=> .int k n
 | .bool b=> .bool b
 | .str l=> .string ⟨l.toArray⟩
 | .sl _=>undef
def Pd.flat:Pd->Bool
 | .sl _=>false
 | _=>true
structure Mb where
 Dt:Nat
 cap:Nat
 xs:List (Nat×Nat):=[]
inductive Sg where
 | box
 | arr (sz n:Nat)
 | Dj (sz n k:Nat)
structure Arz where
 sg:Sg
 holds:(Nat->Prop)->World->Mb->Prop
 F8:Mb->Nat->Prop
 keep:∀{F F':Nat->Prop} {w w':World} {m:Mb},holds F w m->(∀b,F b->w'.heap[b]?=w.heap[b]?)->(∀b,F b->F' b)->(∀b,F8 m b->w'.heap[b]?=w.heap[b]?/\¬F' b)->holds F' w' m
 Jj:∀{F:Nat->Prop} {w:World} {m:Mb} {b:Nat},holds F w m->F8 m b->¬F b
 lt:∀{F:Nat->Prop} {w:World} {m:Mb} {b:Nat},holds F w m->F8 m b->b<w.heap.size
 Ar1:∀{F:Nat->Prop} {w w':World} {m:Mb},holds F w m->(∀b row t fr,F b->w.heap[b]?=some (.cells row t fr)->∃fr',w'.heap[b]?=some (.cells row t fr'))->(∀b,¬F b->w'.heap[b]?=w.heap[b]?)->holds F w' m
inductive AO where
 | box (cs:List D) (t:TypeId:=0)
 | arr (t:TypeId) (sz:Nat) (es:List (List Pd))
 | LG (sz:Nat) (es:List (List Pd))
 | iter (l:List UInt8) (pos:Nat)
 | Df (g:Nat) (cs:List Pd)
 | Fi (s:Arz)
 | mp (l:List (Pd×Pd))
 | Dj (t e:TypeId) (sz k:Nat) (rows:List (List (List Pd))) (hole:Option Nat)
def base:Nat:=1000000
abbrev Hp:=List (Nat×AO)
def get{α:Type}:List (Nat×α)->Nat->Option α
 | [],_=>none
 | (k',x)::r,k=>if k'=k then some x else get r k
def AO.sg:AO->Sg
 | .box _ _=> .box
 | .arr _ sz es=> .arr sz es.length
 | .LG sz es=> .arr sz es.length
 | .iter _ _=> .box
 | .Df _ _=> .box
 | .Fi s=>s.sg
 | .mp _=> .box
 | .Dj _ _ sz k rows _=> .Dj sz rows.length k
def sg(h:Hp)(id:Nat):Option Sg:=(get h id).map AO.sg
inductive PR (F:Nat->Prop) (w:World):Pd->Value->Prop
 | int (k:IntKind) (n:Int):PR F w (.int k n) (.int k n)
 | bool (b:Bool):PR F w (.bool b) (.bool b)
 | str (l:List UInt8):PR F w (.str l) (.string ⟨l.toArray⟩)
 | Vz (a:Option Addr) (cap:Nat):PR F w (.sl []) (.slice a 0 cap)
 | sl (es:List (List Pd)) (b off cap sz:Nat) (row:Array Value) (t:TypeId) (fr:Nat×Nat)
     (hF:F b) (hh:w.heap[b]?=some (.cells row t fr)) (hc:es.length<=cap)
     (hs:∀(i:Nat) e,es[i]?=some e->e.length=sz)
     (hi:∀(i:Nat) e (j:Nat) c,es[i]?=some e->e[j]?=some c->off+i*sz+j<row.size)
     (hp:∀(i:Nat) e (j:Nat) c,es[i]?=some e->e[j]?=some c->PR F w c (row.getD (off+i*sz+j) undef)):
     PR F w (.sl es) (.slice (some ⟨b,off,none⟩) es.length cap)
theorem PR.flat{F:Nat->Prop}{w:World}{x:Pd}(h:x.flat=true):PR F w x x.val:=by
 cases x with
 | int k n=>exact .int k n
 | bool b=>exact .bool b
 | str l=>exact .str l
 | sl _=>cases h
theorem PR.keep{F F':Nat->Prop}{w w':World}{x:Pd}{v:Value}(h:PR F w x v)(hw:∀b,F b->w'.heap[b]?=w.heap[b]?)(hF:∀b,F b->F' b):
   PR F' w' x v:=by
 induction h with
 | int k n=>exact .int k n
 | bool b=>exact .bool b
 | str l=>exact .str l
 | Vz a cap=>exact .Vz a cap
 | sl es b off cap sz row t fr hb hh hc hs hi hp ih=>
   exact .sl es b off cap sz row t fr (hF b hb) (by rw[hw b hb];exact hh) hc hs hi (λ i e j c h1 h2=>ih i e j c h1 h2)
theorem PR.JN{F:Nat->Prop}{w:World}{x:Pd}{v:Value}(h:PR F w x v):v.oneCell'=true:=by
 cases h<;>rfl
def RI(m:Mb)(sz n off len:Nat)(v:Value):Prop:=
 ∃a cap,v= .slice a len cap/\off+len<=n/\len<=cap/\off+cap=m.cap/\(cap=0∨a=some ⟨m.Dt,off*sz,none⟩)
inductive DR (F:Nat->Prop) (w:World) (M:Nat->Mb) (s:Nat->Option Sg):D->Value->Prop
 | p {x:Pd} {v:Value} (h:PR F w x v):DR F w M s (.p x) v
 | agg (cs:List D) (vs:Array Value) (hl:vs.size=cs.length) (h:∀(i:Nat) c,cs[i]?=some c->DR F w M s c (vs.getD i undef)):DR F w M s (.agg cs) (.agg vs)
 | Dg (cs:List D) (vs:Array Value) (hl:vs.size=cs.length) (h:∀(i:Nat) c,cs[i]?=some c->DR F w M s c (vs.getD i undef)):DR F w M s (.Dg cs) (.tuple vs)
 | cl (es:List (List Pd)) (a:Option Addr) (h:PR F w (.sl es) (.slice a es.length es.length)) (hn:es=[]->a=none):DR F w M s (.cl es) (.slice a es.length es.length)
 | cz (es:List (List Pd)) (a:Option Addr) (h:PR F w (.sl es) (.slice a es.length es.length)):DR F w M s (.cz es) (.slice a es.length es.length)
 | ref (id off len N sz n:Nat) (v:Value) (hs:s id=some (.arr sz n)) (hN:N<=n) (hv:∃a l c,v= .slice a l c) (h:N=n->RI (M id) sz n off len v):DR F w M s (.ref id off len N) v
 | ptr (id off:Nat) (hs:s id=some .box):DR F w M s (.ptr id off) (.pointer (some ⟨(M id).Dt,off,none⟩))
 | pe (cs:List Pd) (b off:Nat) (row:Array Value) (t:TypeId) (fr:Nat×Nat) (hF:F b) (hh:w.heap[b]?=some (.cells row t fr))
     (hi:∀(j:Nat) c,cs[j]?=some c->off+j<row.size) (hp:∀(j:Nat) c,cs[j]?=some c->PR F w c (row.getD (off+j) undef)):
     DR F w M s (.pe cs) (.pointer (some ⟨b,off,none⟩))
 | ea (id i c N sz n:Nat) (v:Value) (hs:s id=some (.arr sz n)) (hN:N<=n) (hv:∃a,v= .pointer a) (h:N=n->v= .pointer (some ⟨(M id).Dt,i*sz+c,none⟩)/\i<n):
     DR F w M s (.ea id i c N) v
 | fn (f:FuncId) (cap:List D) (vs:Array Value) (hl:vs.size=cap.length) (h:∀(i:Nat) c,cap[i]?=some c->DR F w M s c (vs.getD i undef)):
     DR F w M s (.fn f cap) (.func (.func f) #[] vs)
 | np:DR F w M s .np (.pointer none)
 | mv (id:Nat) (hs:s id=some .box):DR F w M s (.mv id) (.map (some (M id).Dt))
 | Di (id n sz m k:Nat) (v:Value) (hs:s id=some (.Dj sz m k)) (hN:n<=m) (hv:∃a c,v= .slice a n c/\(n=0∨∃b,a=some ⟨b,0,none⟩)) (h:n=m->RI (M id) 1 m 0 n v):DR F w M s (.Di id n) v
 | LL (id i n sz m k:Nat) (b:Nat) (hs:s id=some (.Dj sz m k)) (hN:n<=m) (hi:i<n) (h:n=m->b=(M id).Dt/\(M id).cap≠0):DR F w M s (.LL id i n) (.pointer (some ⟨b,i,none⟩))
 | nr (id i len q sz m k:Nat) (v:Value) (hs:s id=some (.Dj sz m k)) (hN:q<=k) (hv:∃a c,v= .slice a len c) (h:q=k->∃bc,(M id).xs[i]?=some bc/\len<=bc.2/\∃a,v= .slice a len bc.2/\(bc.2=0∨a=some ⟨bc.1,0,none⟩)):DR F w M s (.nr id i len q) v
 | Qs (v:Value) (h:v.oneCell'=true):DR F w M s .Qs v
 | bad (v:Value):DR F w M s .bad v
def CN(M M':Nat->Mb)(s s':Nat->Option Sg):Prop:=
 (∀id,s id=some .box->s' id=some .box/\(M' id).Dt=(M id).Dt)/\
 (∀id sz n,s id=some (.arr sz n)->∃n',s' id=some (.arr sz n')/\n<=n'/\(n'=n->M' id=M id))/\
 (∀id sz n k,s id=some (.Dj sz n k)->∃n' k',s' id=some (.Dj sz n' k')/\n<=n'/\k<=k'/\(n'=n->(M' id).Dt=(M id).Dt/\(M' id).cap=(M id).cap)/\(k'=k->(M' id).xs=(M id).xs))
theorem CN.refl(M:Nat->Mb)(s:Nat->Option Sg):CN M M s s:=
 ⟨λ _ h=>⟨h,rfl⟩,λ _ _ n h=>⟨n,h,Ai _,λ _=>rfl⟩,λ _ _ n k h=>⟨n,k,h,Ai _,Ai _,λ _=>⟨rfl,rfl⟩,λ _=>rfl⟩⟩
theorem CN.trans{M M' M'':Nat->Mb}{s s' s'':Nat->Option Sg}(h:CN M M' s s')(h':CN M' M'' s' s''):CN M M'' s s'':=by
 refine ⟨λ id hi=>?_,λ id sz n hi=>?_,λ id sz n k hi=>?_⟩
 . obtain ⟨h1,h2⟩:=h.1 id hi;obtain ⟨h3,h4⟩:=h'.1 id h1;exact ⟨h3,h4.trans h2⟩
 . obtain ⟨n1,h1,h2,h3⟩:=h.2.1 id sz n hi;obtain ⟨n2,h4,h5,h6⟩:=h'.2.1 id sz n1 h1;refine ⟨n2,h4,Bw h2 h5,λ e=>?_⟩;have e1:n1=n:=by omega
   rw[h6 (by omega),h3 e1]
 . obtain ⟨n1,k1,h1,h2,He,h3,h3'⟩:=h.2.2 id sz n k hi;obtain ⟨n2,k2,h4,h5,h5',h6,h6'⟩:=h'.2.2 id sz n1 k1 h1;refine ⟨n2,k2,h4,Bw h2 h5,Bw He h5',λ e=>?_,λ e=>?_⟩
   . have e1:n1=n:=by omega
     exact ⟨(h6 (by omega)).1.trans (h3 e1).1,(h6 (by omega)).2.trans (h3 e1).2⟩
   . have e1:k1=k:=by omega
     rw[h6' (by omega),h3' e1]
theorem DR.keep{F F':Nat->Prop}{w w':World}{M M':Nat->Mb}{s s':Nat->Option Sg}{d:D}{v:Value}(h:DR F w M s d v)
   (hw:∀b,F b->w'.heap[b]?=w.heap[b]?) (hF:∀b,F b->F' b) (hs:CN M M' s s'):DR F' w' M' s' d v:=by
 induction h with
 | p h=>exact .p (h.keep hw hF)
 | agg cs vs hl _ ih=>exact .agg cs vs hl ih
 | Dg cs vs hl _ ih=>exact .Dg cs vs hl ih
 | cl es a h hn=>exact .cl es a (h.keep hw hF) hn
 | cz es a h=>exact .cz es a (h.keep hw hF)
 | ref id off len N sz n v h1 hN hv h2=>
   obtain ⟨n',h3,h4,h5⟩:=hs.2.1 id sz n h1;refine .ref id off len N sz n' v h3 (Bw hN h4) hv λ e=>?_;have e2:n'=n:=by omega
   subst e2;rw[h5 rfl];exact h2 e
 | ptr id off h1=>
   obtain ⟨h2,h3⟩:=hs.1 id h1;rw[<-h3];exact .ptr id off h2
 | pe cs b off row t fr hb hh hi hp=>exact .pe cs b off row t fr (hF b hb) (by rw[hw b hb];exact hh) hi (λ j c h1=>(hp j c h1).keep hw hF)
 | ea id i c N sz n v h1 hN hv h2=>
   obtain ⟨n',h3,h4,h5⟩:=hs.2.1 id sz n h1;refine .ea id i c N sz n' v h3 (Bw hN h4) hv λ e=>?_;have e2:n'=n:=by omega
   subst e2;rw[h5 rfl];exact h2 e
 | fn f cap vs hl _ ih=>exact .fn f cap vs hl ih
 | np=>exact .np
 | mv id h1=>
   obtain ⟨h2,h3⟩:=hs.1 id h1;rw[<-h3];exact .mv id h2
 | Di id n sz m k v h1 hN hv h2=>
   obtain ⟨m',k',h3,h4,_,h5,_⟩:=hs.2.2 id sz m k h1;refine .Di id n sz m' k' v h3 (Bw hN h4) hv λ e=>?_;obtain ⟨h6,h7⟩:=h5 (by omega);obtain ⟨a,cap,g1,g2,g3,g4,g5⟩:=h2 (by omega);exact ⟨a,cap,g1,by omega,g3,by rw[h7];exact g4,by rw[h6];exact g5⟩
 | LL id i n sz m k b h1 hN hi h2=>
   obtain ⟨m',k',h3,h4,_,h5,_⟩:=hs.2.2 id sz m k h1;refine .LL id i n sz m' k' b h3 (Bw hN h4) hi λ e=>?_;obtain ⟨h6,h7⟩:=h5 (by omega);rw[h6,h7];exact h2 (by omega)
 | nr id i len q sz m k v h1 hN hv h2=>
   obtain ⟨m',k',h3,_,h4,_,h5⟩:=hs.2.2 id sz m k h1;refine .nr id i len q sz m' k' v h3 (Bw hN h4) hv λ e=>?_;rw[h5 (by omega)];exact h2 (by omega)
 | Qs v h=>exact .Qs v h
 | bad v=>exact .bad v
def O5(ty t:TypeId):TypeId:=if ty=0 then t else ty
def D.TA:D->Bool
 | .np=>true
 | _=>false
def Exa(ty:TypeId)(cs:List D)(row:Array Value):Prop:=ty≠0->cs.any D.TA=true->∀(j:Nat),cs[j]?=some (.cl [])->row.getD j undef= .slice none 0 0
theorem Exa.zero(cs:List D)(row:Array Value):Exa 0 cs row:=λ h=>(h rfl).elim
def Hm(fr:Nat×Nat)(n:Nat):Prop:=∀i,i<n->¬(fr.1<=i/\i<fr.2)
theorem Hm.zero(n:Nat):Hm (0,0) n:=λ _ _ h=>AZ _ h.2
def Qc(w:World)(b:Nat)(t:TypeId)(row:Array Value):Prop:=∃fr,w.heap[b]?=some (.cells row t fr)/\Hm fr row.size
theorem Qc.of0{w:World}{b:Nat}{t:TypeId}{row:Array Value}(h:w.heap[b]?=some (.cells row t (0,0))):Qc w b t row:=⟨_,h,Hm.zero _⟩
theorem Qc.lt{w:World}{b:Nat}{t:TypeId}{row:Array Value}(h:Qc w b t row):b<w.heap.size:=(Ba.1 h.choose_spec.1).1
theorem Qc.keep{w w':World}{b:Nat}{t:TypeId}{row:Array Value}(h:Qc w b t row)(e:w'.heap[b]?=w.heap[b]?):Qc w' b t row:=by
 obtain ⟨fr,h1,h2⟩:=h;exact ⟨fr,by rw[e];exact h1,h2⟩
theorem Qc.set{w:World}{b:Nat}{t:TypeId}{row cs:Array Value}(h:Qc w b t row)(e:cs.size=row.size):Qc (w.setRow b cs) b t cs:=by
 obtain ⟨fr,h1,h2⟩:=h;exact ⟨fr,setRow_heap w b row cs t fr h1,by rw[e];exact h2⟩
theorem Fo(P:Program)(g o:Nat)(t:TypeId):∀(vs:List Value) (i:Nat) (cur:Array Value) (w:World),Qc w g t cur->o+i+vs.length<=cur.size->(∀v∈vs,v.oneCell'=true)->
   (storeCells ⟨g,o,none⟩ vs i).run P w= .ok () (w.setRow g (cur.toList.take (o+i)++vs++cur.toList.drop (o+i+vs.length)).toArray)
 | [],i,cur,w,hg,_,_=>by
   obtain ⟨fr,hg,_⟩:=hg;simp only[storeCells,List.append_nil,Az,Bj,List.take_append_drop,Array.toArray_toList];rw[setRow_self w g cur t fr hg];rfl
 | v::rest,i,cur,w,hg0,hl,h1=>by
   have hi:o+i<cur.size:=by simp at hl;omega
   have ih:=Fo P g o t rest (i+1) (cur.setIfInBounds (o+i) v) (w.setRow g (cur.setIfInBounds (o+i) v)) (hg0.set (by simp)) (by simp at hl ⊢;omega) (λ x hx=>h1 x (by simp[hx]));obtain ⟨fr,hg,hm⟩:=hg0;have Aqw:(⟨g,o,none⟩:Addr).add i=⟨g,o+i,none⟩:=by unfold Addr.add;split<;>simp_all
   have N0:w.cell? ⟨g,o+i,none⟩=some cur[o+i]:=by simp[World.cell?,hg,hi]
   have Bc1:w.frozen? ⟨g,o+i,none⟩=false:=by
     have:=hm (o+i) hi;simp[World.frozen?,hg];omega
   have I5:(store ((⟨g,o,none⟩:Addr).add i) v).run P w= .ok () (w.setRow g (cur.setIfInBounds (o+i) v)):=by
     rw[Aqw,run_store P w _ v _ (h1 v (by simp)),N0];simp[Bc1,setCell_eq_setRow w g (o+i) cur t fr v hg]
   simp only[storeCells,Sem.run_bind,I5,Result.andThen_ok,ih,setRow_setRow]
   congr 3
   have e:=list_seg_step cur.toList (o+i) v rest (by simp at hl ⊢;omega)
   simpa [Array.toList_setIfInBounds,Nat.add_assoc] using e
def UA(F:Nat->Prop)(w:World)(m:Mb)(t:TypeId)(sz:Nat)(es:List (List Pd)):Prop:=
 0<sz/\es.length<=m.cap/\m.cap<=maxLen/\(∀(i:Nat) e,es[i]?=some e->e.length=sz)/\
     (m.cap≠0->¬F m.Dt/\∃row,Qc w m.Dt t row/\row.size=m.cap*sz/\
       ∀(i:Nat) e (j:Nat) c,es[i]?=some e->e[j]?=some c->PR F w c (row.getD (i*sz+j) undef))
structure H6(F:Nat->Prop)(w:World)(m:Mb)(t e:TypeId)(sz:Nat)(rows:List (List (List Pd)))(hole:Option Nat):Prop where
 pos:0<sz
 xl:m.xs.length=rows.length
 le:rows.length<=m.cap
 max:m.cap<=maxLen
 outer:m.cap≠0->¬F m.Dt/\∃row,w.heap[m.Dt]?=some (.cells row t (0,0))/\row.size=m.cap/\
   ∀(i:Nat) r bc,rows[i]?=some r->m.xs[i]?=some bc->hole≠some i->∃a,row.getD i undef= .slice a r.length bc.2/\(bc.2=0∨a=some ⟨bc.1,0,none⟩)
 rows:∀(i:Nat) r bc,rows[i]?=some r->m.xs[i]?=some bc->hole≠some i->UA F w ⟨bc.1,bc.2,[]⟩ e sz r
 Aac:∀(i:Nat) bc,hole=some i->m.xs[i]?=some bc->bc.2=0
 dis:∀(i j:Nat) bi bj,m.xs[i]?=some bi->m.xs[j]?=some bj->i≠j->bi.2≠0->bj.2≠0->bi.1≠bj.1
 out:∀(i:Nat) bi,m.xs[i]?=some bi->bi.2≠0->m.cap≠0->bi.1≠m.Dt
def Dz(m:Mb)(b:Nat):Prop:=(m.cap≠0/\b=m.Dt)∨∃(i:Nat) (bc:Nat×Nat),m.xs[i]?=some bc/\bc.2≠0/\b=bc.1
theorem UA.keep{F F':Nat->Prop}{w w':World}{m:Mb}{t:TypeId}{sz:Nat}{es:List (List Pd)}(h:UA F w m t sz es)
   (hw:∀b,F b->w'.heap[b]?=w.heap[b]?) (hF:∀b,F b->F' b) (CI:m.cap≠0->w'.heap[m.Dt]?=w.heap[m.Dt]?/\¬F' m.Dt):UA F' w' m t sz es:=by
 obtain ⟨h1,h2,He,h3,h4⟩:=h;refine ⟨h1,h2,He,h3,λ hc=>?_⟩;obtain ⟨h5,row,h6,h7,h8⟩:=h4 hc;obtain ⟨h9,JI⟩:=CI hc;exact ⟨JI,row,h6.keep h9,h7,λ i e j c he hj=>(h8 i e j c he hj).keep hw hF⟩
theorem H6.row{F:Nat->Prop}{w:World}{m:Mb}{t e:TypeId}{sz:Nat}{rows:List (List (List Pd))}{hole:Option Nat}(h:H6 F w m t e sz rows hole){i:Nat}{bc:Nat×Nat}(hx:m.xs[i]?=some bc)(hc:bc.2≠0):
   ∃r,rows[i]?=some r/\hole≠some i/\UA F w ⟨bc.1,bc.2,[]⟩ e sz r:=by
 have Ct:i<rows.length:=by rw[<-h.xl];exact (An.1 hx).1
 have hh:hole≠some i:=λ e=>hc (h.Aac i bc e hx);exact ⟨rows[i],by simp[Ct],hh,h.rows i _ bc (by simp[Ct]) hx hh⟩
theorem H6.keep{F F':Nat->Prop}{w w':World}{m:Mb}{t e:TypeId}{sz:Nat}{rows:List (List (List Pd))}{hole:Option Nat}(h:H6 F w m t e sz rows hole)
   (hw:∀b,F b->w'.heap[b]?=w.heap[b]?) (hF:∀b,F b->F' b) (CI:∀b,Dz m b->w'.heap[b]?=w.heap[b]?/\¬F' b):H6 F' w' m t e sz rows hole:=by
 refine ⟨h.pos,h.xl,h.le,h.max,λ hc=>?_,λ i r bc h1 h2 h3=>(h.rows i r bc h1 h2 h3).keep hw hF λ hc=>CI _ (.inr ⟨i,bc,h2,hc,rfl⟩),h.Aac,h.dis,h.out⟩;obtain ⟨h1,row,h2,h3⟩:=h.outer hc;obtain ⟨h4,h5⟩:=CI _ (.inl ⟨hc,rfl⟩);exact ⟨h5,row,by rw[h4];exact h2,h3⟩
theorem H6.Jj{F:Nat->Prop}{w:World}{m:Mb}{t e:TypeId}{sz:Nat}{rows:List (List (List Pd))}{hole:Option Nat}(h:H6 F w m t e sz rows hole){b:Nat}(hb:Dz m b):¬F b:=by
 rcases hb with ⟨hc,rfl⟩ | ⟨i,bc,hx,hc,rfl⟩
 . exact (h.outer hc).1
 . obtain ⟨r,_,_,h1⟩:=h.row hx hc;exact (h1.2.2.2.2 hc).1
theorem H6.lt{F:Nat->Prop}{w:World}{m:Mb}{t e:TypeId}{sz:Nat}{rows:List (List (List Pd))}{hole:Option Nat}(h:H6 F w m t e sz rows hole){b:Nat}(hb:Dz m b):b<w.heap.size:=by
 rcases hb with ⟨hc,rfl⟩ | ⟨i,bc,hx,hc,rfl⟩
 . obtain ⟨_,row,h2,_⟩:=h.outer hc;exact (Ba.1 h2).1
 . obtain ⟨r,_,_,h1⟩:=h.row hx hc;obtain ⟨_,rw_,h2,_⟩:=h1.2.2.2.2 hc;exact h2.lt
def NO(F:Nat->Prop)(w:World)(M:Nat->Mb)(s:Nat->Option Sg)(m:Mb):AO->Prop
 | .box cs ty=>¬F m.Dt/\∃row t,w.heap[m.Dt]?=some (.cells row (O5 ty t) (0,0))/\row.size=cs.length/\
     (∀(j:Nat) d,cs[j]?=some d->DR F w M s d (row.getD j undef)/\(row.getD j undef).oneCell'=true)/\Exa ty cs row
 | .arr t sz es=>0<sz/\es.length<=m.cap/\m.cap<=maxLen/\(∀(i:Nat) e,es[i]?=some e->e.length=sz)/\
     (m.cap≠0->¬F m.Dt/\∃row,Qc w m.Dt t row/\row.size=m.cap*sz/\
       ∀(i:Nat) e (j:Nat) c,es[i]?=some e->e[j]?=some c->PR F w c (row.getD (i*sz+j) undef))
 | .LG sz es=>0<sz/\es.length<=m.cap/\(∀(i:Nat) e,es[i]?=some e->e.length=sz)/\
     (m.cap≠0->F m.Dt/\∃row t fr,w.heap[m.Dt]?=some (.cells row t fr)/\row.size=m.cap*sz/\
       ∀(i:Nat) e (j:Nat) c,es[i]?=some e->e[j]?=some c->PR F w c (row.getD (i*sz+j) undef))
 | .iter l pos=>¬F m.Dt/\w.heap[m.Dt]?=some (.stringIter ⟨l.toArray⟩ pos)
 | .Df g cs=>F g/\∃row t fr,w.heap[g]?=some (.cells row t fr)/\row.size=cs.length/\∀(j:Nat) c,cs[j]?=some c->PR F w c (row.getD j undef)
 | .Fi o=>o.holds F w m
 | .mp l=>¬F m.Dt/\(∃es clock,w.heap[m.Dt]?=some (.map es clock)/\es.toList.map (λ e=>(e.key,e.val))=l.map (λ p=>(p.1.val,p.2.val)))/\∀p∈l,p.2.flat=true
 | .Dj t e sz _ rows hole=>H6 F w m t e sz rows hole
def AO.F8(o:AO)(m:Mb)(b:Nat):Prop:=
 match o with
 | .box _ _=>b=m.Dt
 | .arr _ _ _=>m.cap≠0/\b=m.Dt
 | .LG _ _=>False
 | .iter _ _=>b=m.Dt
 | .Df _ _=>False
 | .Fi s=>s.F8 m b
 | .mp _=>b=m.Dt
 | .Dj _ _ _ _ _ _=>Dz m b
structure HR(F:Nat->Prop)(w:World)(M:Nat->Mb)(h:Hp):Prop where
 obj:∀id o,get h id=some o->NO F w M (sg h) (M id) o
 inj:∀id o Ou o' b,get h id=some o->get h Ou=some o'->o.F8 (M id) b->o'.F8 (M Ou) b->id=Ou
def EF(M:Nat->Mb)(h:Hp)(b:Nat):Prop:=∃id o,get h id=some o/\o.F8 (M id) b
theorem HR.Jj{F:Nat->Prop}{w:World}{M:Nat->Mb}{h:Hp}(hr:HR F w M h){b:Nat}(ho:EF M h b):¬F b:=by
 obtain ⟨id,o,h1,h2⟩:=ho;have:=hr.obj id o h1;cases o with
 | box cs ty=>cases h2;exact this.1
 | arr t sz es=>obtain ⟨h2,rfl⟩:=h2;exact (this.2.2.2.2 h2).1
 | LG sz es=>exact h2.elim
 | iter l pos=>cases h2;exact this.1
 | Df g cs=>exact h2.elim
 | Fi s=>exact s.Jj this h2
 | mp l=>cases h2;exact this.1
 | Dj t e sz k rows hole=>exact H6.Jj this h2
theorem HR.lt{F:Nat->Prop}{w:World}{M:Nat->Mb}{h:Hp}(hr:HR F w M h){b:Nat}(ho:EF M h b):b<w.heap.size:=by
 obtain ⟨id,o,h1,h2⟩:=ho;have:=hr.obj id o h1;cases o with
 | box cs ty=>cases h2;obtain ⟨_,row,t,h3,_⟩:=this;exact (Ba.1 h3).1
 | arr t sz es=>obtain ⟨h2,rfl⟩:=h2;obtain ⟨_,row,h3,_⟩:=this.2.2.2.2 h2;exact h3.lt
 | LG sz es=>exact h2.elim
 | iter l pos=>cases h2;exact (Ba.1 this.2).1
 | Df g cs=>exact h2.elim
 | Fi s=>exact s.lt this h2
 | mp l=>cases h2;obtain ⟨_,⟨_,_,h3,_⟩,_⟩:=this;exact (Ba.1 h3).1
 | Dj t e sz k rows hole=>exact H6.lt this h2
theorem NO.keep{F F':Nat->Prop}{w w':World}{M M':Nat->Mb}{s s':Nat->Option Sg}{m:Mb}{o:AO}(h:NO F w M s m o)
   (hw:∀b,F b->w'.heap[b]?=w.heap[b]?) (hF:∀b,F b->F' b) (hs:CN M M' s s')
   (CI:∀b,o.F8 m b->w'.heap[b]?=w.heap[b]?/\¬F' b):NO F' w' M' s' m o:=by
 cases o with
 | box cs ty=>
   obtain ⟨h1,row,t,h2,h3,h4⟩:=h;obtain ⟨h5,h6⟩:=CI _ rfl;exact ⟨h6,row,t,by rw[h5];exact h2,h3,λ j d hd=>⟨(h4.1 j d hd).1.keep hw hF hs,(h4.1 j d hd).2⟩,h4.2⟩
 | arr t sz es=>
   obtain ⟨h1,h2,He,h3,h4⟩:=h;refine ⟨h1,h2,He,h3,λ hc=>?_⟩;obtain ⟨h5,row,h6,h7,h8⟩:=h4 hc;obtain ⟨h9,JI⟩:=CI _ ⟨hc,rfl⟩;exact ⟨JI,row,h6.keep h9,h7,λ i e j c he hj=>(h8 i e j c he hj).keep hw hF⟩
 | LG sz es=>
   obtain ⟨h1,h2,h3,h4⟩:=h;refine ⟨h1,h2,h3,λ hc=>?_⟩;obtain ⟨h5,row,t,fr,h6,h7,h8⟩:=h4 hc;exact ⟨hF _ h5,row,t,fr,by rw[hw _ h5];exact h6,h7,λ i e j c he hj=>(h8 i e j c he hj).keep hw hF⟩
 | iter l pos=>
   obtain ⟨h5,h6⟩:=CI _ rfl;exact ⟨h6,by rw[h5];exact h.2⟩
 | Df g cs=>
   obtain ⟨h1,row,t,fr,h2,h4,h3⟩:=h;exact ⟨hF _ h1,row,t,fr,by rw[hw _ h1];exact h2,h4,λ j c hc=>(h3 j c hc).keep hw hF⟩
 | Fi o=>exact o.keep h hw hF CI
 | mp l=>
   obtain ⟨h5,h6⟩:=CI _ rfl;obtain ⟨_,⟨es,clock,h2,h3⟩,h4⟩:=h;exact ⟨h6,⟨es,clock,by rw[h5];exact h2,h3⟩,h4⟩
 | Dj t e sz k rows hole=>exact H6.keep h hw hF CI
theorem HR.keep{F:Nat->Prop}{w w':World}{M:Nat->Mb}{h:Hp}(hr:HR F w M h)(hw:∀b,F b->w'.heap[b]?=w.heap[b]?)
   (CI:∀b,EF M h b->w'.heap[b]?=w.heap[b]?):HR F w' M h:=
 ⟨λ id o ho=>(hr.obj id o ho).keep hw (λ _ h=>h) (CN.refl _ _) (λ b h2=>⟨CI b ⟨id,o,ho,h2⟩,hr.Jj ⟨id,o,ho,h2⟩⟩),hr.inj⟩
def IK(g:Sg):Arz where
 sg:=g
 holds:=λ _ _ _=>True
 F8:=λ _ _=>False
 keep:=λ _ _ _ _=>trivial
 Jj:=λ _ h=>h.elim
 lt:=λ _ h=>h.elim
 Ar1:=λ _ _ _=>trivial
end Go.Am
namespace Go.Am
open Go
def WM(b:Bool)(x y:Prop):Prop:=(b=true->x)/\(b=false->y)
@[simp] theorem WIf_true(x y:Prop):WM true x y=x:=by simp[WM]
@[simp] theorem WIf_false(x y:Prop):WM false x y=y:=by simp[WM]
structure St where
 env:List (Nat×D)
 hp:Hp
 n:Nat
def St.put(st:St)(t:Option Nat)(d:D):St:=
 match t with
 | some t=>if t<st.n then {st with env:=(t,d)::st.env} else st
 | none=>st
def Cw{α:Type}:List (Nat×α)->Nat->α->List (Nat×α)
 | [],k,x=>[(k,x)]
 | (k',x')::r,k,x=>if k'=k then (k,x)::r else (k',x')::Cw r k x
mutual
def IS:Value->D
  | .int k n=> .p (.int k n)
  | .bool b=> .p (.bool b)
  | .string s=> .p (.str s.data.toList)
  | .slice none 0 0=> .cl []
  | .pointer none=> .np
  | .agg cs=> .agg (Nz cs.toList)
  | .tuple cs=> .Dg (Nz cs.toList)
  | _=> .bad
def Nz:List Value->List D
  | []=>[]
  | v::r=>IS v::Nz r
end
def ev(st:St):Operand->D
 | .tmp t=>(get st.env t).getD .bad
 | .const v=>IS v
 | .func f=> .fn f []
 | .global _=> .bad
inductive TK where
 | int (k:IntKind) | bool | string | slice (e:TypeId) | ptr (e:TypeId) | struct (fs:List (Nat×TypeId)) | array (n:Nat) (e:TypeId) | other
structure TI where
 size:Nat
 bytes:Nat
 k:TK
 zero:D
def TK.of:TypeDesc->TK
 | .int k=> .int k
 | .bool=> .bool
 | .string=> .string
 | .slice e=> .slice e
 | .pointer e=> .ptr e
 | .struct fs=> .struct (fs.toList.map λ f=>(f.offset,f.type))
 | .array n e=> .array n e
 | _=> .other
def TK.isAgg:TK->Bool
 | .struct _ | .array _ _=>true
 | _=>false
def CC(P:Program)(t:TypeId):Option TI:=
 match P.info? t,P.underlying t with
 | some i,some u=>match i.zero with
   | some z=>some ⟨i.size,i.bytes,TK.of u,IS z⟩
   | none=>none
 | _,_=>none
def D.one:D->Bool
 | .agg _ | .Dg _ | .bad=>false
 | _=>true
def D.cells:D->List D
 | .agg cs=>cs
 | d=>[d]
def D.stored(d:D):Option (List D):=if d.cells.all D.one then some d.cells else none
def Ti(ti:TI)(cs:List D)(off:Nat)(k:D->Prop):Prop:=
 if ti.k.isAgg then off+ti.size<=cs.length/\k (.agg ((cs.drop off).take ti.size))
 else match cs[off]? with
   | some d=>k d
   | none=>False
def RL(ti:TI)(cs:List Pd)(off:Nat)(k:D->Prop):Prop:=
 if ti.k.isAgg then off+ti.size<=cs.length/\k (.agg (((cs.drop off).take ti.size).map D.p))
 else match cs[off]? with
   | some d=>k (.p d)
   | none=>False
def VU(P:Program)(h:Hp)(t:TypeId)(d:D)(k:D->Prop):Prop:=
 match CC P t,d with
 | some ti,.ptr id off=>match get h id with
   | some (.box cs _)=>Ti ti cs off k
   | _=>False
 | some ti,.pe cs=>RL ti cs 0 k
 | some ti,.ea id i c N=>match get h id with
   | some (.arr _ _ es)=>N=es.length/\RL ti (es.getD i []) c k
   | some (.LG _ es)=>N=es.length/\RL ti (es.getD i []) c k
   | _=>False
 | some ti,.LL id i n=>match get h id with
   | some (.Dj _ _ _ kk rows hole)=>(n=rows.length/\hole≠some i/\ti.k.isAgg=false)/\k (.nr id i (rows.getD i []).length kk)
   | _=>False
 | _,_=>False
def Arn(op:BinOp)(x y:D)(k:D->Prop):Prop:=
 match op,x,y with
 | .add,.p (.int k1 a),.p (.int k2 b)=>k1=k2/\k (.p (.int k1 (k1.wrap (a+b))))
 | .sub,.p (.int k1 a),.p (.int k2 b)=>k1=k2/\k (.p (.int k1 (k1.wrap (a - b))))
 | .mul,.p (.int k1 a),.p (.int k2 b)=>k1=k2/\k (.p (.int k1 (k1.wrap (a*b))))
 | .quo,.p (.int k1 a),.p (.int k2 b)=>k1=k2/\b≠0/\k (.p (.int k1 (k1.wrap (a.tdiv b))))
 | .rem,.p (.int k1 a),.p (.int k2 b)=>k1=k2/\b≠0/\k (.p (.int k1 (a.tmod b)))
 | .eql,.p (.int k1 a),.p (.int k2 b)=>k1=k2/\k (.p (.bool (decide (a=b))))
 | .neq,.p (.int k1 a),.p (.int k2 b)=>k1=k2/\k (.p (.bool (!decide (a=b))))
 | .lss,.p (.int k1 a),.p (.int k2 b)=>k1=k2/\k (.p (.bool (decide (a<b))))
 | .leq,.p (.int k1 a),.p (.int k2 b)=>k1=k2/\k (.p (.bool (decide (a<=b))))
 | .gtr,.p (.int k1 a),.p (.int k2 b)=>k1=k2/\k (.p (.bool (decide (b<a))))
 | .geq,.p (.int k1 a),.p (.int k2 b)=>k1=k2/\k (.p (.bool (decide (b<=a))))
 | .and,.p (.int k1 a),.p (.int k2 b)=>k1=k2/\k (.p (.int k1 (k1.wrap (BitVec.ofInt k1.bits a&&& BitVec.ofInt k1.bits b).toNat)))
 | .shr,.p (.int k1 a),.p (.int _ b)=>0<=b/\k (.p (.int k1 (a.fdiv (2 ^ (min b.toNat k1.bits)))))
 | .add,.p (.str a),.p (.str b)=>a.length+b.length<=maxLen/\k (.p (.str (a++b)))
 | .eql,.p (.str a),.p (.str b)=>k (.p (.bool (decide (a=b))))
 | .neq,.p (.str a),.p (.str b)=>k (.p (.bool (!decide (a=b))))
 | _,_,_=>False
inductive FK where
 | int | bool | str
def Jw(P:Program):Nat->List Field->Option (List FK)
 | _,[]=>some []
 | i,f::r=>if f.name≠ "_" /\f.offset=i then
     match CC P f.type,Jw P (i+1) r with
     | some ⟨1,_,.int _,_⟩,some l=>some (.int::l)
     | some ⟨1,_,.bool,_⟩,some l=>some (.bool::l)
     | some ⟨1,_,.string,_⟩,some l=>some (.str::l)
     | _,_=>none
   else none
def Ace(P:Program)(e:TypeId):Option FK:=
 match CC P e with
 | some ⟨1,_,.int _,_⟩=>some .int
 | some ⟨1,_,.bool,_⟩=>some .bool
 | some ⟨1,_,.string,_⟩=>some .str
 | _=>none
def Wg(P:Program)(t:TypeId):Option (List FK):=
 if P.eqGuardType P.depth t=false/\P.stoodInHeld t=false then
   match P.underlying t with
   | some (.struct fs)=>Jw P 0 fs.toList
   | some (.array n e)=>(Ace P e).map (List.replicate n)
   | _=>none
 else none
def MK:List FK->List D->List D->Option Bool
 | [],[],[]=>some true
 | .int::ks,.p (.int k a)::xs,.p (.int k' b)::ys=>if k=k' then (MK ks xs ys).map (decide (a=b)&& ·) else none
 | .bool::ks,.p (.bool a)::xs,.p (.bool b)::ys=>(MK ks xs ys).map ((a==b)&& ·)
 | .str::ks,.p (.str a)::xs,.p (.str b)::ys=>(MK ks xs ys).map (decide (a=b)&& ·)
 | _,_,_=>none
def T9(P:Program)(t:TypeId)(xs ys:List D):Option Bool:=(Wg P t).bind λ ks=>MK ks xs ys
def MP(P:Program)(op:BinOp)(t:TypeId)(x y:D)(k:D->Prop):Prop:=
 match op,x,y with
 | .eql,.p (.bool a),.p (.bool b)=>(match CC P t with | some ⟨_,_,.bool,_⟩=>k (.p (.bool (a==b))) | _=>False)
 | .neq,.p (.bool a),.p (.bool b)=>(match CC P t with | some ⟨_,_,.bool,_⟩=>k (.p (.bool (!(a==b)))) | _=>False)
 | .eql,.agg xs,.agg ys=>(match T9 P t xs ys with | some b=>k (.p (.bool b)) | none=>False)
 | .neq,.agg xs,.agg ys=>(match T9 P t xs ys with | some b=>k (.p (.bool (!b))) | none=>False)
 | .eql,.p (.sl es),.cl []=>(match CC P t with | some ⟨_,_,.slice _,_⟩=>es≠[]/\k (.p (.bool false)) | _=>False)
 | .eql,.cl es,.cl []=>(match CC P t with | some ⟨_,_,.slice _,_⟩=>k (.p (.bool es.isEmpty)) | _=>False)
 | op,x,y=>Arn op x y k
def unD(op:UnOp)(x:D)(k:D->Prop):Prop:=
 match op,x with
 | .not,.p (.bool b)=>k (.p (.bool (!b)))
 | .neg,.p (.int kd n)=>k (.p (.int kd (kd.wrap (0 - n))))
 | _,_=>False
def YV(c a b:D)(k:D->Prop):Prop:=
 match c,a,b with
 | .p (.bool t),.p (.bool x),.p (.bool y)=>k (.p (.bool (if t then x else y)))
 | .p (.bool t),a,b=>WM t (k a) (k b)
 | _,_,_=>False
def Su:List (List Pd)->Option (List UInt8)
 | []=>some []
 | [.int .u8 n]::r=>(Su r).map (UInt8.ofNat n.toNat:: ·)
 | _=>none
def j3(P:Program)(s d:TypeId)(x:D)(k:D->Prop):Prop:=
 match CC P s,CC P d,x with
 | some _,some ⟨_,_,.int kd,_⟩,.p (.int _ n)=>k (.p (.int kd (kd.wrap n)))
 | some _,some ⟨_,_,.string,_⟩,.p (.str l)=>k (.p (.str l))
 | some ⟨_,_,.slice e,_⟩,some ⟨_,_,.string,_⟩,.p (.sl es)=>match CC P e,Su es with
   | some ⟨_,_,.int .u8,_⟩,some l=>k (.p (.str l))
   | _,_=>False
 | _,_,_=>False
def Jx(P:Program)(t:TypeId)(x:D)(f:Nat)(h:Hp)(k:D->Prop):Prop:=
 match CC P t with
 | some ⟨_,_,.struct fs,_⟩=>match fs[f]? with
   | some (o,u)=>match CC P u with
     | some ti=>ti.size≠0/\match x with
       | .ptr id off=>k (.ptr id (off+o))
       | .pe cs=>k (.pe (cs.drop o))
       | .ea id i c N=>(match sg h id with | some (.arr _ m)=>N=m | _=>False)/\k (.ea id i (c+o) N)
       | _=>False
     | none=>False
   | none=>False
 | _=>False
def T5(P:Program)(t:TypeId)(x:D)(f:Nat)(k:D->Prop):Prop:=
 match CC P t with
 | some ⟨_,_,.struct fs,_⟩=>match fs[f]?,x with
   | some (o,u),.agg cs=>match CC P u with
     | some ti=>Ti ti cs o k
     | none=>False
   | _,_=>False
 | _=>False
def Jn(P:Program)(t:TypeId)(x i:D)(h:Hp)(k:D->Prop):Prop:=
 match CC P t,i with
 | some ⟨_,_,.slice e,_⟩,.p (.int _ n)=>match CC P e with
   | some ti=>match x with
     | .p (.sl es)=>(0<=n/\n<es.length)/\(es.getD n.toNat []).length=ti.size/\k (.pe (es.getD n.toNat []))
     | .cl es=>(0<=n/\n<es.length)/\(es.getD n.toNat []).length=ti.size/\k (.pe (es.getD n.toNat []))
     | .ref id off len N=>match sg h id with
       | some (.arr sz m)=>(0<=n/\n<len)/\sz=ti.size/\N=m/\k (.ea id (off+n.toNat) 0 N)
       | _=>False
     | .Di id N=>(0<=n/\n<N)/\ti.size=1/\k (.LL id n.toNat N)
     | _=>False
   | none=>False
 | some ⟨_,_,.array m e,_⟩,.p (.int _ n)=>match CC P e,x with
   | some ti,.ptr id off=>(0<=n/\n<m)/\k (.ptr id (off+n.toNat*ti.size))
   | some ti,.pe cs=>(0<=n/\n<m)/\k (.pe (cs.drop (n.toNat*ti.size)))
   | _,_=>False
 | _,_=>False
def TE(P:Program)(t:TypeId)(x i:D)(k:D->Prop):Prop:=
 match CC P t,x,i with
 | some ⟨_,_,.string,_⟩,.p (.str l),.p (.int _ n)=>(0<=n/\n<l.length)/\k (.p (.int .u8 (l.getD n.toNat 0).toNat))
 | some ⟨_,_,.array m e,_⟩,.agg cs,.p (.int _ n)=>match CC P e with
   | some ti=>(0<=n/\n<m)/\Ti ti cs (n.toNat*ti.size) k
   | none=>False
 | _,_,_=>False
def Ff(st:St)(o:Option Operand)(XQ:Int)(k:Int->Prop):Prop:=
 match o with
 | none=>k XQ
 | some x=>match ev st x with
   | .p (.int _ n)=>k n
   | _=>False
def S1(P:Program)(st:St)(t:TypeId)(x:D)(lo hi mx:Option Operand)(k:D->Prop):Prop:=
 match CC P t,x with
 | some ⟨_,_,.string,_⟩,.p (.str l)=>mx.isNone=true/\Ff st lo 0 λ a=>Ff st hi l.length λ b=>(0<=a/\a<=b/\b<=l.length)/\k (.p (.str ((l.take b.toNat).drop a.toNat)))
 | some ⟨_,_,.slice e,_⟩,x=>match CC P e with
   | some ti=>match x with
     | .p (.sl es)=>match mx with
       | none=>Ff st lo 0 λ a=>Ff st hi es.length λ b=>(0<=a/\a<=b/\b<=es.length)/\(∀(i:Nat) e,es[i]?=some e->e.length=ti.size)/\k (.p (.sl ((es.take b.toNat).drop a.toNat)))
       | some m=>Ff st lo 0 λ a=>Ff st hi es.length λ b=>Ff st (some m) 0 λ c=>(0<=a/\a<=b/\b=c/\c<=es.length)/\(∀(i:Nat) e,es[i]?=some e->e.length=ti.size)/\hi.isSome=true/\k (.cz ((es.take b.toNat).drop a.toNat))
     | .ref id off len N=>match sg st.hp id with
       | some (.arr sz m)=>mx.isNone=true/\sz=ti.size/\Ff st lo 0 λ a=>Ff st hi len λ b=>(0<=a/\a<=b/\b<=len)/\N=m/\k (.ref id (off+a.toNat) (b - a).toNat N)
       | _=>False
     | _=>False
   | none=>False
 | _,_=>False
def GM(place:Nat->Option (Nat×Nat))(cells:List D):List (Nat×D)->Option (List D)
 | []=>some cells
 | (i,d)::rest=>match place i with
   | none=>none
   | some (off,size)=>if d.cells.length=size/\off+size<=cells.length/\d.cells.all D.one=true then GM place (cells.take off++d.cells++cells.drop (off+size)) rest else none
def K2(P:Program):List (Nat×TypeId)->Option (List (Nat×Nat))
 | []=>some []
 | (o,u)::r=>match CC P u,K2 P r with
   | some ti,some l=>some ((o,ti.size)::l)
   | _,_=>none
def Us(P:Program)(st:St)(t:TypeId)(parts:List (Nat×Operand))(k:D->Prop):Prop:=
 match CC P t with
 | some ⟨_,_,.struct fs,z⟩=>
   match K2 P fs,z with
   | some pl,.agg zs=>match GM (λ i=>pl[i]?) zs (parts.map λ q=>(q.1,ev st q.2)) with
     | some cs=>k (.agg cs)
     | none=>False
   | _,_=>False
 | some ⟨_,_,.array _ e,z⟩=>
   match CC P e,z with
   | some ti,.agg zs=>match GM (λ i=>some (i*ti.size,ti.size)) zs (parts.map λ q=>(q.1,ev st q.2)) with
     | some cs=>k (.agg cs)
     | none=>False
   | _,_=>False
 | _=>False
def MD(x:D)(i:Nat)(k:D->Prop):Prop:=
 match x with
 | .Dg cs=>match cs[i]? with
   | some d=>k d
   | none=>False
 | _=>False
inductive KK where
 | int (k:IntKind) | str
def KK.fit:KK->Pd->Bool
 | .int k,.int k' _=>decide (k'=k)
 | .str,.str _=>true
 | _,_=>false
def pdV:Value->Option Pd
 | .int k n=>some (.int k n)
 | .bool b=>some (.bool b)
 | .string s=>some (.str s.data.toList)
 | _=>none
def mapOf(P:Program)(t:TypeId):Option (KK×Pd):=
 match P.underlying t with
 | some (.map k e)=>match P.underlying k,(P.info? e).bind (·.zero) with
   | some (.int q),some z=>(pdV z).map λ y=>(.int q,y)
   | some .string,some z=>(pdV z).map λ y=>(.str,y)
   | _,_=>none
 | _=>none
def Pd.same:Pd->Pd->Option Bool
 | .int k a,.int k' b=>if k=k' then some (a==b) else none
 | .str a,.str b=>some (a==b)
 | _,_=>none
def Lz(k:Pd):List (Pd×Pd)->Option (Option Pd)
 | []=>some none
 | (k',v)::r=>match Pd.same k k' with
   | some true=>some (some v)
   | some false=>Lz k r
   | none=>none
def QS(k:Pd)(l:List (Pd×Pd)):Prop:=(Lz k l).isSome=true
def Tr(k:Pd)(l:List (Pd×Pd)):Option Pd:=(Lz k l).getD none
def Kq(k v:Pd):List (Pd×Pd)->List (Pd×Pd)
 | []=>[(k,v)]
 | (k',v')::r=>if Pd.same k k'=some true then (k,v)::r else (k',v')::Kq k v r
def EL(z:Pd)(ok:Bool)(r:Option Pd):D:=if ok then .Dg [.p (r.getD z),.p (.bool r.isSome)] else .p (r.getD z)
def Pr(P:Program)(h:Hp)(t:TypeId)(x i:D)(ok:Bool)(k:D->Prop):Prop:=
 match mapOf P t,x,i with
 | some (kk,z),.mv id,.p key=>match get h id with
   | some (.mp l)=>(kk.fit key=true/\QS key l)/\k (EL z ok (Tr key l))
   | _=>False
 | _,_,_=>False
def Tt(P:Program)(h:Hp)(t:TypeId)(m i v:D)(k:Hp->Prop):Prop:=
 match mapOf P t,m,i,v with
 | some (kk,_),.mv id,.p key,.p x=>match get h id with
   | some (.mp l)=>(kk.fit key=true/\QS key l/\x.flat=true)/\k (Cw h id (.mp (Kq key x l)))
   | _=>False
 | _,_,_,_=>False
def vOp(P:Program)(st:St)(op:Op)(k:D->Prop):Prop:=
 match op with
 | .move x | .assign x=>k (ev st x)
 | .pick c a b=>YV (ev st c) (ev st a) (ev st b) k
 | .binOp op t x y _=>MP P op t (ev st x) (ev st y) k
 | .unOp op _ x=>unD op (ev st x) k
 | .nilCheck x=>match ev st x with
   | .ptr id off=>k (.ptr id off)
   | .pe cs=>k (.pe cs)
   | .ea id i c N=>(match sg st.hp id with | some (.arr _ m)=>N=m | _=>False)/\k (.ea id i c N)
   | _=>False
 | .convert s d x=>j3 P s d (ev st x) k
 | .build t parts=>Us P st t parts.toList k
 | .load t a=>VU P st.hp t (ev st a) k
 | .slice t x lo hi mx=>S1 P st t (ev st x) lo hi mx k
 | .fieldAddr t x f=>Jx P t (ev st x) f st.hp k
 | .field t x f=>T5 P t (ev st x) f k
 | .indexAddr t x i=>Jn P t (ev st x) (ev st i) st.hp k
 | .index t x i=>TE P t (ev st x) (ev st i) k
 | .extract t i=>MD (ev st t) i k
 | .lookup t x i ok=>Pr P st.hp t (ev st x) (ev st i) ok k
 | .makeFunc (.func f) first cap=>first.size=0/\k (.fn f (cap.toList.map (ev st)))
 | _=>False
def D3(l:List UInt8):List (List Pd):=l.map λ b=>[Pd.int .u8 b.toNat]
def froze(h:Hp)(id:Nat):Hp:=
 match get h id with
 | some (.arr _ sz es)=>Cw h id (.LG sz es)
 | _=>h
def Kl(h:Hp)(d:D)(k:Pd->Hp->Prop):Prop:=
 match d with
 | .p x=>k x h
 | .cl es=>k (.sl es) h
 | .cz es=>k (.sl es) h
 | .ref id off len N=>match get h id with
   | some (.arr _ _ es)=>N=es.length/\k (.sl ((es.drop off).take len)) (froze h id)
   | some (.LG _ es)=>N=es.length/\k (.sl ((es.drop off).take len)) h
   | _=>False
 | .Di id n=>match get h id with
   | some (.Dj _ _ sz kk rows none)=>n=rows.length/\k (.sl (rows.map λ r=>[.sl r])) (Cw h id (.Fi (IK (.Dj sz rows.length kk))))
   | _=>False
 | _=>False
def HH:Hp->List D->(List Pd->Hp->Prop)->Prop
 | h,[],k=>k [] h
 | h,d::r,k=>Kl h d λ x h'=>HH h' r λ xs h''=>k (x::xs) h''
def LZ(h:Hp)(d:D)(k:List (List Pd)->Prop):Prop:=
 match d with
 | .p (.sl ys)=>k ys
 | .p (.str l)=>k (D3 l)
 | .cl ys=>k ys
 | .ref id off len N=>match get h id with
   | some (.arr _ _ es)=>N=es.length/\k ((es.drop off).take len)
   | some (.LG _ es)=>N=es.length/\k ((es.drop off).take len)
   | _=>False
 | _=>False
def chunk{α:Type}(sz:Nat):Nat->List α->List (List α)
 | 0,_=>[]
 | n+1,l=>l.take sz::chunk sz n (l.drop sz)
def n7(P:Program)(h:Hp)(q:Nat)(t t2:TypeId)(s x:D)(k:D->Hp->Prop):Prop:=
 match CC P t,CC P t2 with
 | some ⟨_,_,.slice e,_⟩,some ti2=>(match ti2.k with | .slice _=>True | .string=>True | _=>False)/\match CC P e with
   | some ti=>LZ h x λ ys=>(∀y∈ys,y.length=ti.size)/\0<ti.size/\ti.zero.cells.length=ti.size/\match s with
     | .cl es=>get h q=none/\(es=[]∨ys≠[])/\(∀y∈es,y.length=ti.size)/\(es.length+ys.length)*ti.bytes<=140737488355328/\es.length+ys.length<=140737488355328/\
         k (.ref q 0 (es++ys).length (es++ys).length) ((q,.arr e ti.size (es++ys))::h)
     | .cz es=>get h q=none/\ys≠[]/\(∀y∈es,y.length=ti.size)/\(es.length+ys.length)*ti.bytes<=140737488355328/\es.length+ys.length<=140737488355328/\
         k (.ref q 0 (es++ys).length (es++ys).length) ((q,.arr e ti.size (es++ys))::h)
     | .ref id off len N=>match get h id with
       | some (.arr e' sz es)=>off=0/\N=es.length/\len=es.length/\e'=e/\sz=ti.size/\(es.length+ys.length)*ti.bytes<=140737488355328/\es.length+ys.length<=140737488355328/\
           k (.ref id 0 (es++ys).length (es++ys).length) (Cw h id (.arr e sz (es++ys)))
       | _=>False
     | .nr id i len kk=>match get h id with
       | some (.Dj t3 e' sz k2 rows none)=>(e'=e/\sz=ti.size/\kk=k2/\len=(rows.getD i []).length/\i<rows.length/\get h q=none)/\(len+ys.length)*ti.bytes<=140737488355328/\len+ys.length<=140737488355328/\
           k (.ref q 0 (rows.getD i []++ys).length (rows.getD i []++ys).length) ((q,.arr e sz (rows.getD i []++ys))::Cw h id (.Dj t3 e' sz (k2+1) rows (some i)))
       | _=>False
     | _=>False
   | none=>False
 | _,_=>False
def b9(P:Program)(h:Hp)(t:TypeId)(s x:D)(k:D->Hp->Prop):Prop:=
 match CC P t with
 | some ⟨_,_,.slice e,_⟩=>match CC P e with
   | some ti=>LZ h x λ ys=>(∀y∈ys,y.length=ti.size)/\0<ti.size/\match s with
     | .ref id off len N=>match get h id with
       | some (.arr e' sz es)=>N=es.length/\off+len<=N/\sz=ti.size/\
           k (.p (.int .i64 ((min len ys.length:Nat):Int))) (Cw h id (.arr e' sz (es.take off++ys.take len++es.drop (off+min len ys.length))))
       | _=>False
     | _=>False
   | none=>False
 | _=>False
def Ks(ty:TypeId)(cs:List D):TypeId:=match ty with
 | 0=>0
 | t+1=>if cs.any D.TA=true then 0 else t+1
def Atv(hole:Option Nat)(k:Nat):Nat:=match hole with
 | none=>k+2
 | some _=>k+1
def Md(h:Hp)(id i n:Nat)(v:D)(k:Hp->Prop):Prop:=
 match v with
 | .ref q off len N=>match get h q,get h id with
   | some (.arr e2 OV es),some (.Dj t e sz k2 rows hole)=>(off=0/\e2=e/\OV=sz/\N=es.length/\len=N/\n=rows.length/\(hole=none∨hole=some i))/\
       k (Cw (Cw h id (.Dj t e sz (Atv hole k2) (rows.set i es) none)) q (.Fi (IK (.arr sz (es.length+1)))))
   | _,_=>False
 | _=>False
def SU(P:Program)(h:Hp)(t:TypeId)(a v:D)(k:Hp->Prop):Prop:=
 match CC P t with
 | some ti=>match v.stored with
   | some cs=>cs.length=ti.size/\match a with
     | .ptr id off=>match get h id with
       | some (.box bs ty)=>off+cs.length<=bs.length/\k (Cw h id (.box (bs.take off++cs++bs.drop (off+cs.length)) (Ks ty (bs.take off++cs++bs.drop (off+cs.length)))))
       | _=>False
     | .ea id i c N=>HH h cs λ xs h'=>match get h' id with
       | some (.arr e sz es)=>N=es.length/\c+xs.length<=sz/\k (Cw h' id (.arr e sz (es.set i ((es.getD i []).take c++xs++(es.getD i []).drop (c+xs.length)))))
       | _=>False
     | .LL id i n=>Md h id i n v k
     | _=>False
   | none=>False
 | none=>False
def npT(t:TypeId)(cs:List D):TypeId:=if cs.any D.TA=true then t else 0
def mOp(P:Program)(st:St)(q:Nat)(op:Op)(k:D->Hp->Prop):Prop:=
 match op with
 | .alloc t=>match CC P t with
   | some ti=>match ti.zero.stored with
     | some cs=>get st.hp q=none/\k (.ptr q 0) ((q,.box cs (npT t cs))::st.hp)
     | none=>False
   | none=>False
 | .box _ x=>match (ev st x).stored with
   | some cs=>get st.hp q=none/\k (.ptr q 0) ((q,.box cs)::st.hp)
   | none=>False
 | .store t a x=>SU P st.hp t (ev st a) (ev st x) λ h=>k (.Dg []) h
 | .makeMap _ none=>get st.hp q=none/\k (.mv q) ((q,.mp [])::st.hp)
 | .mapUpdate t m i x=>Tt P st.hp t (ev st m) (ev st i) (ev st x) λ h=>k (.Dg []) h
 | .buildSlice t n parts=>match CC P t with
   | some ⟨_,_,.slice e,_⟩=>match CC P e with
     | some ti=>0<ti.size/\n*ti.size<=16777216/\match GM (λ i=>some (i*ti.size,ti.size)) (List.replicate (n*ti.size) .bad) (parts.toList.map λ q=>(q.1,ev st q.2)) with
       | some cs=>HH st.hp cs λ xs h=>get h q=none/\k (.ref q 0 n n) ((q,.arr e ti.size (chunk ti.size n xs))::h)
       | none=>False
     | none=>False
   | _=>False
 | .makeSlice t l m=>match CC P t,ev st l,ev st m with
   | some ⟨_,_,.slice e,_⟩,.p (.int _ l),.p (.int _ m)=>match CC P e with
     | some ti=>0<ti.size/\get st.hp q=none/\(0<=l/\l<=m/\m*ti.bytes<=140737488355328/\m<=140737488355328)/\ti.zero.cells.length=ti.size/\
         HH [] ti.zero.cells λ zs _=>k (.ref q 0 l.toNat l.toNat) ((q,.arr e ti.size (List.replicate l.toNat zs))::st.hp)
     | none=>False
   | _,_,_=>False
 | _=>False
end Go.Am
namespace Go.Am
open Go
structure Ctx where
 w0:World
 F0:Nat->Prop
 O0:Nat->Prop
 M0:Nat->Mb
 s0:Nat->Option Sg
structure Aom(c:Ctx)(w:World)(F:Nat->Prop)(M:Nat->Mb)(h:Hp):Prop where
 os:w.os=c.w0.os
 tape:w.tape=c.w0.tape
 output:w.output=c.w0.output
 size:c.w0.heap.size<=w.heap.size
 LR:∀b,b<c.w0.heap.size->¬c.O0 b->w.heap[b]?=c.w0.heap[b]?
 F0:∀b,c.F0 b->F b
 Fn:∀b,F b->c.F0 b∨c.O0 b∨c.w0.heap.size<=b
 Fl:∀b,F b->b<w.heap.size
 own:∀b,EF M h b->c.O0 b∨c.w0.heap.size<=b
 VB:CN c.M0 M c.s0 (sg h)
 s0b:∀id,c.s0 id≠none->base<=id
structure Rel(c:Ctx)(st:St)(a:Act)(w:World)(F:Nat->Prop)(M:Nat->Mb):Prop where
 env:∀t d,get st.env t=some d->DR F w M (sg st.hp) d (a.tmps.getD t undef)
 size:a.tmps.size=st.n
 defers:a.defers=[]
 heap:HR F w M st.hp
 keep:Aom c w F M st.hp
theorem Cp{α:Type}(k':Nat)(x:α)(r:List (Nat×α))(k:Nat):get ((k',x)::r) k=if k'=k then some x else get r k:=rfl
mutual
theorem Km (F:Nat->Prop) (w:World) (M:Nat->Mb) (s:Nat->Option Sg):∀v:Value,DR F w M s (IS v) v
  | .int k n=>by simp only[IS];exact .p (.int k n)
  | .bool b=>by simp only[IS];exact .p (.bool b)
  | .string s=>by simp only[IS];have:=PR.str (F:=F) (w:=w) s.data.toList;simpa using DR.p this
  | .slice none 0 0=>by simp only[IS];exact .cl [] none (.Vz none 0) (λ _=>rfl)
  | .agg cs=>by
    simp only[IS];have h:=Ol F w M s cs.toList;refine .agg _ cs (by simpa using h.1.symm) λ i c hc=>?_;have:=h.2 i c hc
    simpa [Array.getD_eq_getD_getElem?,List.getD] using this
  | .tuple cs=>by
    simp only[IS];have h:=Ol F w M s cs.toList;refine .Dg _ cs (by simpa using h.1.symm) λ i c hc=>?_;have:=h.2 i c hc
    simpa [Array.getD_eq_getD_getElem?,List.getD] using this
  | .float _ _=>by simp only[IS];exact .bad _
  | .complex _ _ _=>by simp only[IS];exact .bad _
  | .pointer none=>by simp only[IS];exact .np
  | .pointer (some _)=>by simp only[IS];exact .bad _
  | .slice (some _) _ _=>by simp only[IS];exact .bad _
  | .slice none (_+1) _=>by simp only[IS];exact .bad _
  | .slice none 0 (_+1)=>by simp only[IS];exact .bad _
  | .map _=>by simp only[IS];exact .bad _
  | .chan _=>by simp only[IS];exact .bad _
  | .func _ _ _=>by simp only[IS];exact .bad _
  | .nilFunc=>by simp only[IS];exact .bad _
  | .iface _ _=>by simp only[IS];exact .bad _
  | .nilIface=>by simp only[IS];exact .bad _
theorem Ol (F:Nat->Prop) (w:World) (M:Nat->Mb) (s:Nat->Option Sg):∀vs:List Value,
    (Nz vs).length=vs.length/\∀(i:Nat) c,(Nz vs)[i]?=some c->DR F w M s c (vs.getD i undef)
  | []=>by simp[Nz]
  | v::r=>by
    have h0:=Km F w M s v;have h1:=Ol F w M s r;refine ⟨by simp[Nz,h1.1],λ i c hc=>?_⟩;cases i with
    | zero=>simp only[Nz,List.getElem?_cons_zero,Option.some.injEq] at hc;subst hc;simpa [List.getD] using h0
    | succ i=>simp only[Nz,List.getElem?_cons_succ] at hc;simpa [List.getD] using h1.2 i c hc
end
section
variable {P:Program} {c:Ctx} {st:St} {a:Act} {w:World} {F:Nat->Prop} {M:Nat->Mb}
theorem Ci(hr:Rel c st a w F M)(x:Operand):DR F w M (sg st.hp) (ev st x) (a.eval x):=by
 cases x with
 | tmp t=>
   simp only[ev,Act.eval];cases h:get st.env t with
   | none=>exact .bad _
   | some d=>exact hr.env t d h
 | const v=>exact Km _ _ _ _ v
 | global g=>exact .bad _
 | func f=>exact .fn f [] #[] rfl (λ i c h=>by simp at h)
theorem Cd{t:TypeId}{ti:TI}(h:CC P t=some ti):∃i u z,P.info? t=some i/\P.underlying t=some u/\i.zero=some z/\ti=⟨i.size,i.bytes,TK.of u,IS z⟩:=by
 unfold CC at h;cases h1:P.info? t with
 | none=>rw[h1] at h;cases h
 | some i=>
   cases h2:P.underlying t with
   | none=>rw[h1,h2] at h;cases h
   | some u=>
     cases h3:i.zero with
     | none=>rw[h1,h2] at h;simp only[h3] at h;cases h
     | some z=>rw[h1,h2] at h;simp only[h3] at h;cases h;exact ⟨i,u,z,rfl,rfl,h3,rfl⟩
theorem TK.of_slice{u:TypeDesc}{e:TypeId}(h:TK.of u= .slice e):u= .slice e:=by cases u<;>simp_all [TK.of]
theorem TK.of_struct{u:TypeDesc}{fs:List (Nat×TypeId)}(h:TK.of u= .struct fs):∃gs,u= .struct gs/\fs=gs.toList.map λ f=>(f.offset,f.type):=by
 cases u<;>simp_all [TK.of]
theorem TK.of_array{u:TypeDesc}{n:Nat}{e:TypeId}(h:TK.of u= .array n e):u= .array n e:=by cases u<;>simp_all [TK.of]
theorem TK.of_string{u:TypeDesc}(h:TK.of u= .string):u= .string:=by cases u<;>simp_all [TK.of]
theorem TK.of_int{u:TypeDesc}{k:IntKind}(h:TK.of u= .int k):u= .int k:=by cases u<;>simp_all [TK.of]
theorem Dh{t:TypeId}{i:TypeInfo}(h:P.info? t=some i)(w:World):(sizeOf t).run P w= .ok i.size w:=by
 simp[sizeOf,typeInfo,h]
theorem S8{t:TypeId}{u:TypeDesc}(h:P.underlying t=some u)(w:World):(isAgg t).run P w= .ok (TK.of u).isAgg w:=by
 unfold isAgg;rw[Sem.run_bind,run_underlying h w];cases u<;>rfl
theorem Hj{t:TypeId}{i:TypeInfo}{u:TypeDesc}(hi:P.info? t=some i)(hu:P.underlying t=some u){b off:Nat}{row:Array Value}{e:TypeId}{fr:Nat×Nat}
   (hb:w.heap[b]?=some (.cells row e fr)) (hag:(TK.of u).isAgg=true->off+i.size<=row.size∨i.size=0) (NG:(TK.of u).isAgg=false->off<row.size):
   (loadVar t ⟨b,off,none⟩).run P w= .ok (if (TK.of u).isAgg then .agg ((row.toList.drop off).take i.size).toArray else row.getD off undef) w:=by
 unfold loadVar;rw[Sem.run_bind,S8 hu w];simp only[Result.andThen_ok];cases hk:(TK.of u).isAgg with
 | false=>
   have:=NG hk;have hc:w.cell? ⟨b,off,none⟩=some (row.getD off undef):=by
     rw[cell_of_row w b off row e fr hb,As];simp[this]
   simp[hc]
 | true=>
   have hl:=hag hk;have hlen:((row.toList.drop off).take i.size).length=i.size:=by simp;omega
   have hc:=run_loadCells_list (P:=P) w ⟨b,off,none⟩ ((row.toList.drop off).take i.size) (λ j v hv=>by
     rw[Addr.add_lit,cell_of_row w b (off+j) row e fr hb];rw[AH] at hv;split at hv
     . simpa using hv
     . cases hv)
   rw[hlen] at hc;simp[Dh hi w,hc]
theorem L9{ti:TI}{cs:List D}{off:Nat}{k:D->Prop}(h:Ti ti cs off k){row:Array Value}{s:Nat->Option Sg}(CS:row.size=cs.length)
   (hc:∀(j:Nat) d,cs[j]?=some d->DR F w M s d (row.getD j undef)):
   (ti.k.isAgg=true->off+ti.size<=row.size∨ti.size=0)/\(ti.k.isAgg=false->off<row.size)/\
   ∃d,k d/\DR F w M s d (if ti.k.isAgg then .agg ((row.toList.drop off).take ti.size).toArray else row.getD off undef):=by
 unfold Ti at h;cases hk:ti.k.isAgg with
 | true=>
   rw[hk] at h;simp only[AM] at h;refine ⟨λ _=> .inl (by rw[CS];exact h.1),λ h=>by simp at h,_,h.2,?_⟩;simp only[AM];refine .agg _ _ (by simp[CS]) λ i d hd=>?_;rw[AH] at hd;split at hd
   . rename_i Ct;rw[AV] at hd;have:=hc _ d hd;have Sn:off+i<cs.length:=(An.1 hd).1;have e:(((row.toList.drop off).take ti.size).toArray).getD i undef=row.getD (off+i) undef:=by
       rw[As,As];simp[AH,Ct]
     rw[e];exact this
   . cases hd
 | false=>
   rw[hk] at h;simp only[AJ,A9] at h ⊢;cases hd:cs[off]? with
   | none=>rw[hd] at h;exact h.elim
   | some d=>
     rw[hd] at h;exact ⟨λ h=>h.elim,λ _=>by rw[CS];exact (An.1 hd).1,d,h,hc off d hd⟩
theorem RJ{ti:TI}{cs:List Pd}{off:Nat}{k:D->Prop}(h:RL ti cs off k){row:Array Value}{s:Nat->Option Sg}(o:Nat)
   (hi:∀(j:Nat) c,cs[j]?=some c->o+j<row.size) (hc:∀(j:Nat) c,cs[j]?=some c->PR F w c (row.getD (o+j) undef)):
   (ti.k.isAgg=true->(o+off)+ti.size<=row.size∨ti.size=0)/\(ti.k.isAgg=false->o+off<row.size)/\
   ∃d,k d/\DR F w M s d (if ti.k.isAgg then .agg ((row.toList.drop (o+off)).take ti.size).toArray else row.getD (o+off) undef):=by
 unfold RL at h;cases hk:ti.k.isAgg with
 | true=>
   rw[hk] at h;simp only[AM] at h;have Em:(o+off)+ti.size<=row.size∨ti.size=0:=by
     rcases BV ti.size with h0 | h0
     . exact .inr h0
     . refine .inl ?_;have h1:=h.1;have Ct:off+ti.size - 1<cs.length:=by omega
       have:=hi (off+ti.size - 1) _ (Ax Ct);omega
   refine ⟨λ _=>Em,λ h=>by simp at h,_,h.2,?_⟩;simp only[AM];refine .agg _ _ (by rcases Em with h2 | h2<;>simp<;>omega) λ i d hd=>?_;rw[AQ] at hd;cases hx:((cs.drop off).take ti.size)[i]? with
   | none=>rw[hx] at hd;cases hd
   | some x=>
     rw[hx] at hd;cases hd;rw[AH] at hx;split at hx
     . rename_i Ct;rw[AV] at hx;have:=hc _ x hx;have e:(((row.toList.drop (o+off)).take ti.size).toArray).getD i undef=row.getD (o+(off+i)) undef:=by
         rw[As,As];simp[AH,Ct,Nat.add_assoc]
       rw[e];exact .p this
     . cases hx
 | false=>
   rw[hk] at h;simp only[AJ,A9] at h ⊢;cases hd:cs[off]? with
   | none=>rw[hd] at h;exact h.elim
   | some d=>
     rw[hd] at h;exact ⟨λ h=>h.elim,λ _=>hi off d hd,.p d,h,.p (hc off d hd)⟩
end
end Go.Am
namespace Go.Am
open Go
section
variable {P:Program} {c:Ctx} {st:St} {a:Act} {w:World} {F:Nat->Prop} {M:Nat->Mb}
theorem CW{h:Hp}{id:Nat}{o:AO}(hg:get h id=some o):sg h id=some o.sg:=by simp[sg,hg]
theorem Aj2{h:Hp}{id:Nat}(hg:sg h id=some .box):∃o,get h id=some o/\o.sg= .box:=by
 unfold sg at hg;cases ho:get h id with
 | none=>rw[ho] at hg;cases hg
 | some o=>rw[ho] at hg;exact ⟨o,rfl,Ac hg⟩
theorem Atk{h:Hp}{id sz n:Nat}(hg:sg h id=some (.arr sz n)):(∃t es,get h id=some (.arr t sz es)/\es.length=n)∨(∃es,get h id=some (.LG sz es)/\es.length=n)∨(∃s,get h id=some (.Fi s)/\s.sg= .arr sz n):=by
 unfold sg at hg;cases ho:get h id with
 | none=>rw[ho] at hg;cases hg
 | some o=>
   rw[ho] at hg;cases o<;>simp[AO.sg] at hg
   . obtain ⟨rfl,h2⟩:=hg;exact .inl ⟨_,_,rfl,h2⟩
   . obtain ⟨rfl,h2⟩:=hg;exact .inr (.inl ⟨_,rfl,h2⟩)
   . exact .inr (.inr ⟨_,rfl,hg⟩)
theorem HR.row(hr:HR F w M st.hp){id sz:Nat}{es:List (List Pd)}(hg:(∃t,get st.hp id=some (.arr t sz es))∨get st.hp id=some (.LG sz es)):
   0<sz/\es.length<=(M id).cap/\(∀(i:Nat) e,es[i]?=some e->e.length=sz)/\((M id).cap≠0->∃row t fr,w.heap[(M id).Dt]?=some (.cells row t fr)/\row.size=(M id).cap*sz/\
       ∀(i:Nat) e (j:Nat) c,es[i]?=some e->e[j]?=some c->PR F w c (row.getD (i*sz+j) undef)):=by
 rcases hg with ⟨t,hg⟩ | hg
 . obtain ⟨h1,h2,_,h3,h4⟩:=hr.obj id _ hg;exact ⟨h1,h2,h3,λ hc=>by obtain ⟨_,row,⟨fr,h5,_⟩,h6⟩:=h4 hc;exact ⟨row,t,fr,h5,h6⟩⟩
 . obtain ⟨h1,h2,h3,h4⟩:=hr.obj id _ hg;exact ⟨h1,h2,h3,λ hc=>by obtain ⟨_,row,t,fr,h5⟩:=h4 hc;exact ⟨row,t,fr,h5⟩⟩
theorem Jd{i j n sz cap:Nat}(h1:i<n)(h2:n<=cap)(h3:j<sz):i*sz+j<cap*sz:=by
 have:(i+1)*sz<=cap*sz:=Bu _ (by omega);rw[Bf] at this;omega
theorem RQ(hr:HR F w M st.hp){t:TypeId}{d:D}{k:D->Prop}(h:VU P st.hp t d k){v:Value}(hv:DR F w M (sg st.hp) d v):
   ∃d' v',k d'/\DR F w M (sg st.hp) d' v'/\(Instr.loadAt t v).run P w= .ok v' w:=by
 unfold VU at h;cases ht:CC P t with
 | none=>rw[ht] at h;simp at h
 | some ti=>
   rw[ht] at h;obtain ⟨i,u,z,hi,hu,hz,rfl⟩:=Cd ht;cases d with
   | ptr id off=>
     simp only at h;cases ho:get st.hp id with
     | none=>rw[ho] at h;exact h.elim
     | some o=>
       rw[ho] at h;cases o with
       | box cs ty=>
         cases hv with
         | ptr _ _ hs=>
           obtain ⟨h1,row,e,h2,h3,h4⟩:=hr.obj id _ ho;obtain ⟨hp1,La,d',hk,hd⟩:=L9 (F:=F) (w:=w) (M:=M) h (s:=sg st.hp) h3 (λ j d hd=>(h4.1 j d hd).1);exact ⟨d',_,hk,hd,by simp[Instr.loadAt,Instr.sureAddr,Hj hi hu h2 hp1 La]⟩
       | arr _ _ _=>exact h.elim
       | LG _ _=>exact h.elim
       | iter _ _=>exact h.elim
       | Df _ _=>exact h.elim
       | Fi _=>exact h.elim
       | mp _=>exact h.elim
       | Dj _ _ _ _ _ _=>exact h.elim
   | pe cs=>
     simp only at h;cases hv with
     | pe _ b off row e fr hF hh TS hp=>
       obtain ⟨hp1,La,d',hk,hd⟩:=RJ (F:=F) (w:=w) (M:=M) h (s:=sg st.hp) off TS hp;exact ⟨d',_,hk,hd,by simp only[Instr.loadAt,Instr.sureAddr,Sem.run_bind,Sem.run_pure,Result.andThen_ok];exact Hj hi hu hh hp1 La⟩
   | ea id j q N=>
     simp only at h;have key:∀(sz:Nat) (es:List (List Pd)),((∃t,get st.hp id=some (.arr t sz es))∨get st.hp id=some (.LG sz es))->sg st.hp id=some (.arr sz es.length)->N=es.length->
         RL ⟨i.size,i.bytes,TK.of u,IS z⟩ (es.getD j []) q k->∃d' v',k d'/\DR F w M (sg st.hp) d' v'/\(Instr.loadAt t v).run P w= .ok v' w:=by
       intro sz es hg Hs hN Axn;cases hv with
       | ea _ _ _ _ RC n v hs hN' _ h2=>
         rw[Hs] at hs;simp only[Al,Sg.arr.injEq] at hs;obtain ⟨rfl,rfl⟩:=hs;obtain ⟨rfl,Ct⟩:=h2 hN;obtain ⟨h1,h3,h4,h5⟩:=hr.row hg;obtain ⟨row,e,fr,h6,h7,h8⟩:=h5 (by omega);have hej:es[j]?=some (es.getD j []):=by simp[List.getD,Ct]
         have hlen:=h4 j _ hej;obtain ⟨hp1,La,d',hk,hd⟩:=RJ (F:=F) (w:=w) (M:=M) Axn (s:=sg st.hp) (row:=row) (j*sz)
           (λ q c hc=>by rw[h7];exact Jd Ct h3 (by have:=(An.1 hc).1;omega)) (λ q c hc=>h8 j _ q c hej hc)
         exact ⟨d',_,hk,hd,by simp[Instr.loadAt,Instr.sureAddr,Hj hi hu h6 hp1 La]⟩
     cases ho:get st.hp id with
     | none=>rw[ho] at h;exact h.elim
     | some o=>
       rw[ho] at h;cases o with
       | box cs ty=>exact h.elim
       | arr t' sz es=>exact key sz es (.inl ⟨t',ho⟩) (CW ho) h.1 h.2
       | LG sz es=>exact key sz es (.inr ho) (CW ho) h.1 h.2
       | iter _ _=>exact h.elim
       | Df _ _=>exact h.elim
       | Fi _=>exact h.elim
       | mp _=>exact h.elim
       | Dj _ _ _ _ _ _=>exact h.elim
   | LL id j n=>
     simp only at h;cases ho:get st.hp id with
     | none=>rw[ho] at h;exact h.elim
     | some o=>
       rw[ho] at h;cases o with
       | Dj t' e' sz kk rows hole=>
         obtain ⟨⟨h1,h2,h3⟩,hk⟩:=h;cases hv with
         | LL _ _ _ OV m k2 b hs hN EP hl=>
           rw[CW ho] at hs;simp only[AO.sg,Al,Sg.Dj.injEq] at hs;obtain ⟨rfl,rfl,rfl⟩:=hs;obtain ⟨rfl,hc⟩:=hl h1;have hn:H6 F w (M id) t' e' sz rows hole:=hr.obj id _ ho;obtain ⟨_,row,CS,Em,CP⟩:=hn.outer hc;have hjr:rows[j]?=some (rows.getD j []):=by simp[List.getD,show j<rows.length by omega]
           have hjx:j<(M id).xs.length:=by rw[hn.xl];omega
           have hjb:(M id).xs[j]?=some ((M id).xs[j]):=Ax hjx;obtain ⟨ad,h4,h5⟩:=CP j _ _ hjr hjb h2;have hA:=hn.rows j _ _ hjr hjb h2;have Sn:j<row.size:=by have:=hn.le;omega
           have h3':(TK.of u).isAgg=false:=h3;refine ⟨_,row.getD j undef,hk,?_,by simp[Instr.loadAt,Instr.sureAddr,Hj hi hu CS (λ h=>by rw[h3'] at h;cases h) (λ _=>Sn),h3']⟩;rw[h4];exact .nr id j _ _ sz rows.length kk _ (by rw[CW ho];rfl) (Ai _) ⟨_,_,rfl⟩ (λ _=>⟨_,hjb,hA.2.1,ad,rfl,h5⟩)
       | _=>exact h.elim
   | _=>simp at h
theorem SH{α:Type}[BEq α][LawfulBEq α][DecidableEq α](a b:α):(a==b)=decide (a=b):=by rw[Bp];simp
theorem Arl{α:Type}[BEq α][LawfulBEq α][DecidableEq α](a b:α):(a != b)=!decide (a=b):=by rw[Bp];simp
theorem Ig(l:List UInt8):(⟨l.toArray⟩:ByteArray).size=l.length:=by simp[ByteArray.size]
theorem u6(a b:List UInt8):((⟨a.toArray⟩:ByteArray)++(⟨b.toArray⟩:ByteArray))=⟨(a++b).toArray⟩:=by
 apply ByteArray.ext;simp
theorem Abg{op:BinOp}{x y:D}{k:D->Prop}(h:Arn op x y k){s:Nat->Option Sg}{vx vy:Value}(hx:DR F w M s x vx)(hy:DR F w M s y vy)(t:TypeId)(ox oy:Operand):
   ∃d v,k d/\DR F w M s d v/\(do eqGuard op t ox oy vx vy;binOp op t vx vy:Sem Value).run P w= .ok v w:=by
 have Ax2:∀{k1 k2:IntKind} {p q:Int},x= .p (.int k1 p)->y= .p (.int k2 q)->vx= .int k1 p/\vy= .int k2 q:=by
   rintro k1 k2 p q rfl rfl;cases hx with | p hx=>cases hx;cases hy with | p hy=>cases hy;exact ⟨rfl,rfl⟩
 have Bau:∀{p q:List UInt8},x= .p (.str p)->y= .p (.str q)->vx= .string ⟨p.toArray⟩/\vy= .string ⟨q.toArray⟩:=by
   rintro p q rfl rfl;cases hx with | p hx=>cases hx;cases hy with | p hy=>cases hy;exact ⟨rfl,rfl⟩
 unfold Arn at h;split at h;all_goals first
   | exact h.elim
   | (obtain ⟨rfl,h⟩:=h
      obtain ⟨rfl,rfl⟩:=Ax2 rfl rfl;first
        | (refine ⟨_,_,h,.p (.int _ _),?_⟩;first | (simp[eqGuard,binOp,Op.intArith];done) | (simp[eqGuard,binOp,Op.intBits];done))
        | exact ⟨_,_,h.2,.p (.int _ _),by simp[eqGuard,binOp,Op.intDiv,h.1]⟩
        | (refine ⟨_,_,h,.p (.bool _),?_⟩;first | (simp[eqGuard,binOp,Op.intCmp];done) | (simp[eqGuard,binOp,Op.intCmp,SH,Arl];done)))
   | (obtain ⟨h0,h⟩:=h
      obtain ⟨rfl,rfl⟩:=Ax2 rfl rfl;exact ⟨_,_,h,.p (.int _ _),by simp[eqGuard,binOp,Op.shift,show ¬_<(0:Int) from Int.not_lt.2 h0]⟩)
   | (obtain ⟨rfl,rfl⟩:=Bau rfl rfl
      first
        | (refine ⟨_,_,h,.p (.bool _),?_⟩;simp[eqGuard,binOp,Op.stringOp,SH];done)
        | (refine ⟨_,_,h.2,.p (.str _),?_⟩
           have h1:=h.1;simp only[maxLen] at h1;simp only[eqGuard,binOp,Op.stringOp,Ig,Sem.run_bind];simp[u6,IntKind.max,IntKind.bits,IntKind.signed];omega))
theorem TK.of_bool{u:TypeDesc}(h:TK.of u= .bool):u= .bool:=by cases u<;>simp_all [TK.of]
theorem Adh{op:UnOp}{x:D}{k:D->Prop}(h:unD op x k){s:Nat->Option Sg}{vx:Value}(hx:DR F w M s x vx):
   ∃d v,k d/\DR F w M s d v/\(Op.unary op vx).run P w= .ok v w:=by
 unfold unD at h;split at h
 . cases hx with | p hx=>cases hx;exact ⟨_,_,h,.p (.bool _),by simp[Op.unary]⟩
 . cases hx with | p hx=>cases hx;exact ⟨_,_,h,.p (.int _ _),by simp[Op.unary,Op.intArith]⟩
 . exact h.elim
theorem YU{x y z:D}{k:D->Prop}(h:YV x y z k){s:Nat->Option Sg}{vx vy vz:Value}(hx:DR F w M s x vx)(hy:DR F w M s y vy)(hz:DR F w M s z vz):
   ∃d v,k d/\DR F w M s d v/\(do pure (.value (if <-asBool vx then vy else vz)):Sem Next).run P w= .ok (.value v) w:=by
 unfold YV at h;split at h
 . rename_i t b1 b2;cases hx with | p hx=>cases hx;cases hy with | p hy=>cases hy;cases hz with | p hz=>cases hz;refine ⟨_,.bool (if t then b1 else b2),h,.p (.bool _),?_⟩;cases t<;>simp[asBool]
 . cases hx with | p hx=>
     cases hx;rename_i t _;by_cases ht:t=true
     . subst ht;exact ⟨_,_,h.1 rfl,hy,by simp[asBool]⟩
     . have ht':t=false:=by simpa using ht
       subst ht';exact ⟨_,_,h.2 rfl,hz,by simp[asBool]⟩
 . exact h.elim
theorem Z5:∀{es:List (List Pd)} {l:List UInt8},Su es=some l->l.length=es.length
 | [],l,h=>by simp[Su] at h;subst h;rfl
 | y::r,l,h=>by
   unfold Su at h;split at h
   . rename_i he;cases he
   . rename_i n r' he;cases he;cases hr:Su r with
     | none=>rw[hr] at h;cases h
     | some l'=>rw[hr] at h;cases h;simp[Z5 hr]
   . cases h
theorem Z6:∀{es:List (List Pd)} {l:List UInt8},Su es=some l->∀(j:Nat),j<es.length->∃n:Int,es[j]?=some [.int .u8 n]/\l[j]?=some (UInt8.ofNat n.toNat)
 | [],l,h,j,hj=>by simp at hj
 | y::r,l,h,j,hj=>by
   unfold Su at h;split at h
   . rename_i he;cases he
   . rename_i n r' he;cases he;cases hr:Su r with
     | none=>rw[hr] at h;cases h
     | some l'=>
       rw[hr] at h;cases h;cases j with
       | zero=>exact ⟨n,rfl,rfl⟩
       | succ j=>
         obtain ⟨m,h1,h2⟩:=Z6 hr j (by simpa using hj);exact ⟨m,by simpa using h1,by simpa using h2⟩
   . cases h
theorem ZI{n:Nat}{p:Nat->Int->Prop}(h:∀j,j<n->∃x,p j x):∃l:List Int,l.length=n/\∀j (hj:j<l.length),p j l[j]:=by
 induction n with
 | zero=>exact ⟨[],rfl,λ j hj=>by simp at hj⟩
 | succ n ih=>
   obtain ⟨l,h1,h2⟩:=ih λ j hj=>h j (by omega);obtain ⟨x,hx⟩:=h n (by omega);refine ⟨l++[x],by simp[h1],λ j hj=>?_⟩;by_cases e:j<l.length
   . rw[List.getElem_append_left e];exact h2 j e
   . have:j=n:=by simp at hj;omega
     subst this;rw[List.getElem_append_right (by omega)]
     simpa [h1] using hx
theorem Ss(ns:List Int):ns.foldl (λ r n=>r.push (UInt8.ofNat n.toNat)) ByteArray.empty=⟨(ns.map λ n=>UInt8.ofNat n.toNat).toArray⟩:=by
 have key:∀(ns:List Int) (r:ByteArray),ns.foldl (λ r n=>r.push (UInt8.ofNat n.toNat)) r=⟨r.data++(ns.map λ n=>UInt8.ofNat n.toNat).toArray⟩:=by
   intro ns
   induction ns with
   | nil=>intro r;simp
   | cons n ns ih=>intro r;simp only[Bo,ih];simp[ByteArray.push]
 rw[key];have he0:ByteArray.empty.data=#[]:=rfl;rw[he0];simp
theorem j0{ts td:TypeId}{x:D}{k:D->Prop}(h:j3 P ts td x k){s:Nat->Option Sg}{vx:Value}(hx:DR F w M s x vx):
   ∃d v,k d/\DR F w M s d v/\(convert ts td vx).run P w= .ok v w:=by
 unfold j3 at h;split at h
 . rename_i t1 _ _ kd _ kx n h1 h2;obtain ⟨i1,u1,_,_,Fq,_,_⟩:=Cd h1;obtain ⟨i2,u2,_,_,LM,_,e2⟩:=Cd h2;simp only[TI.mk.injEq] at e2;have Auc:=TK.of_int e2.2.2.1.symm;subst Auc;cases hx with | p hx=>
     cases hx;refine ⟨_,_,h,.p (.int _ _),?_⟩;simp only[convert,Sem.run_bind,run_underlying Fq,run_underlying LM,Result.andThen_ok,Conv.intToInt];rfl
 . rename_i t1 _ _ _ l h1 h2;obtain ⟨i1,u1,_,_,Fq,_,_⟩:=Cd h1;obtain ⟨i2,u2,_,_,LM,_,e2⟩:=Cd h2;simp only[TI.mk.injEq] at e2;have Auc:=TK.of_string e2.2.2.1.symm;subst Auc;cases hx with | p hx=>
     cases hx;refine ⟨_,_,h,.p (.str _),?_⟩;simp only[convert,Sem.run_bind,run_underlying Fq,run_underlying LM,Result.andThen_ok];cases u1<;>simp
 . rename_i t1 e _ _ _ _ es h1 h2;split at h
   case h_2=>exact h.elim
   rename_i b3 z3 l h3 h4;obtain ⟨i1,u1,_,_,Fq,_,e1⟩:=Cd h1;obtain ⟨i2,u2,_,_,LM,_,e2⟩:=Cd h2;obtain ⟨i3,u3,_,_,hu3,_,e3⟩:=Cd h3;simp only[TI.mk.injEq] at e1 e2 e3;obtain rfl:=TK.of_slice e1.2.2.1.symm;obtain rfl:=TK.of_string e2.2.2.1.symm;obtain rfl:=TK.of_int e3.2.2.1.symm;refine ⟨_,.string ⟨l.toArray⟩,h,.p (.str l),?_⟩;cases hx with | p hx=>
     have hlen:=Z5 h4;cases hx with
     | Vz ad cap=>
       obtain rfl:l=[]:=by simp[Su] at h4;exact h4
       rw[run_convert_bytes_string w ts td e ad 0 cap Fq hu3 LM];cases ad with
       | none=>simp[Conv.bytesToString];rfl
       | some ad=>
         have:=run_bytesToString (P:=P) w ad 0 cap [] (run_loadCells_list (P:=P) w ad [] (λ j v hj=>by simp at hj));rw[this];rfl
     | sl _ b off cap sz row t fr hF hh hc hs hi hp=>
       have N0:∀(j:Nat) (hj:j<es.length),∃n:Int,w.cell? ((⟨b,off,none⟩:Addr).add j)=some (.int .u8 n)/\l[j]?=some (UInt8.ofNat n.toNat):=by
         intro j hj;obtain ⟨n,h5,h6⟩:=Z6 h4 j hj;have Em:sz=1:=(hs j _ h5).symm;subst Em;have h7:=hi j _ 0 (.int .u8 n) h5 rfl;have h8:=hp j _ 0 (.int .u8 n) h5 rfl;rw[Nat.mul_one,Bj] at h7 h8;refine ⟨n,?_,h6⟩;rw[Addr.add_lit];have Qk:w.cell? ⟨b,off+j,none⟩=row[off+j]?:=by simp[World.cell?,hh]
         rw[Qk,A7 h7];rw[As,A7 h7,AY] at h8;generalize row[off+j]=y at h8;cases h8;rfl
       have hns:∃ns:List Int,ns.length=es.length/\∀j (hj:j<ns.length),w.cell? ((⟨b,off,none⟩:Addr).add j)=some (.int .u8 ns[j])/\l[j]?=some (UInt8.ofNat ns[j].toNat):=
         ZI (n:=es.length) (p:=λ j n=>w.cell? ((⟨b,off,none⟩:Addr).add j)=some (.int .u8 n)/\l[j]?=some (UInt8.ofNat n.toNat)) N0
       obtain ⟨ns,hn1,hn2⟩:=hns;rw[run_convert_bytes_string w ts td e _ es.length cap Fq hu3 LM];have hl:=run_loadCells_list (P:=P) w ⟨b,off,none⟩ (ns.map (Value.int .u8)) (λ j v hj=>by
         have Hc:j<ns.length:=by simpa using (List.getElem?_eq_some_iff.1 hj).1
         rw[(hn2 j Hc).1];simp[Ax Hc] at hj;rw[<-hj])
       simp only[A8] at hl;rw[hn1] at hl;have:=run_bytesToString (P:=P) w ⟨b,off,none⟩ es.length cap ns hl;rw[this];have hll:ns.map (λ n=>UInt8.ofNat n.toNat)=l:=by
         refine List.ext_getElem? λ j=>?_;by_cases hj:j<ns.length
         . rw[AQ,Ax hj,(hn2 j hj).2];rfl
         . rw[List.getElem?_eq_none (by simpa using hj),List.getElem?_eq_none (by omega)]
       rw[Ss,hll]
 . exact h.elim
theorem Rh{t:TypeId}{x:D}{f:Nat}{hp:Hp}{k:D->Prop}(h:Jx P t x f hp k){vx:Value}(hx:DR F w M (sg hp) x vx):
   ∃d v,k d/\DR F w M (sg hp) d v/\(Instr.fieldAt t vx f).run P w= .ok v w:=by
 unfold Jx at h;cases ht:CC P t with
 | none=>rw[ht] at h;simp at h
 | some ti=>
   obtain ⟨i,u,z,hi,hu,hz,rfl⟩:=Cd ht;rw[ht] at h;(try simp only at h);split at h
   case h_2=>exact h.elim
   rename_i fs z' he;simp only[Al,TI.mk.injEq] at he;obtain ⟨gs,rfl,rfl⟩:=TK.of_struct he.2.2.1;rw[AQ] at h;cases hf:gs.toList[f]? with
   | none=>rw[hf] at h;simp at h
   | some fd=>
     rw[hf] at h;simp only[Bn] at h;have hf':gs[f]?=some fd:=by simpa using hf
     cases NL:CC P fd.type with
     | none=>rw[NL] at h;exact h.elim
     | some tj=>
       rw[NL] at h;obtain ⟨i2,u2,z2,EP,_,_,rfl⟩:=Cd NL;obtain ⟨Dl,h⟩:=h;simp only at Dl;have run:∀b off,vx= .pointer (some ⟨b,off,none⟩)->(Instr.fieldAt t vx f).run P w= .ok (.pointer (some ⟨b,off+fd.offset,none⟩)) w:=by
         rintro b off rfl;simp[Instr.fieldAt,run_underlying hu,hf',Instr.sureAddr,fieldPlace,Dh EP,Dl,Addr.add_lit]
       cases x with
       | ptr id off=>
         cases hx with
         | ptr _ _ hs=>exact ⟨_,_,h,.ptr id (off+fd.offset) hs,run _ _ rfl⟩
       | pe cs=>
         cases hx with
         | pe _ b off row e fr hF hh TS hp'=>
           refine ⟨_,_,h,.pe _ b (off+fd.offset) row e fr hF hh (λ j c hj=>?_) (λ j c hj=>?_),run _ _ rfl⟩
           . rw[AV] at hj;have:=TS _ c hj;omega
           . rw[AV] at hj;have:=hp' _ c hj;rwa[Nat.add_assoc]
       | ea id j q N=>
         obtain ⟨hN,h⟩:=h;cases hx with
         | ea _ _ _ _ sz n v hs hle _ h2=>
           rw[hs] at hN;obtain ⟨rfl,Ct⟩:=h2 hN;exact ⟨_,_,h,.ea id j (q+fd.offset) N sz n _ hs hle ⟨_,rfl⟩ (λ _=>⟨by rw[Nat.add_assoc],Ct⟩),run _ _ rfl⟩
       | _=>exact h.elim
theorem MZ{t:TypeId}{i:TypeInfo}{u:TypeDesc}(hi:P.info? t=some i)(hu:P.underlying t=some u){cs:Array Value}{off:Nat}
   (NG:(TK.of u).isAgg=false->off<cs.size):
   (part t cs off).run P w= .ok (if (TK.of u).isAgg then .agg ((cs.toList.drop off).take i.size).toArray else cs.getD off undef) w:=by
 unfold part;rw[Sem.run_bind,S8 hu w];simp only[Result.andThen_ok];cases hk:(TK.of u).isAgg with
 | false=>
   have Ct:=NG hk;simp[Ct]
 | true=>
   simp only[AM,Dh hi w,Sem.run_bind,Result.andThen_ok,Sem.run_pure]
   congr 2
   apply Array.ext';simp[List.drop_take]
theorem Ant{ks:List FK}{X Y:List D}{b:Bool}(h:MK (.int::ks) X Y=some b):∃k a c xs ys b2,X= .p (.int k a)::xs/\Y= .p (.int k c)::ys/\MK ks xs ys=some b2/\b=(decide (a=c)&&b2):=by
 unfold MK at h;split at h<;>try (first | (cases h;done) | (rename_i e0 _ _;cases e0;done) | (rename_i e0;cases e0;done))
 all_goals first
   | (rename_i e0
      injection e0 with e1 e2
      subst e2;split at h
      . rename_i ek;subst ek;obtain ⟨b2,h1,rfl⟩:=BC.1 h;exact ⟨_,_,_,_,_,b2,rfl,rfl,h1,rfl⟩
      . cases h)
   | skip
theorem Ahj{ks:List FK}{X Y:List D}{b:Bool}(h:MK (.bool::ks) X Y=some b):∃a c xs ys b2,X= .p (.bool a)::xs/\Y= .p (.bool c)::ys/\MK ks xs ys=some b2/\b=((a==c)&&b2):=by
 unfold MK at h;split at h<;>try (first | (cases h;done) | (rename_i e0 _ _;cases e0;done) | (rename_i e0;cases e0;done))
 all_goals first
   | (rename_i e0
      injection e0 with e1 e2
      subst e2;obtain ⟨b2,h1,rfl⟩:=BC.1 h;exact ⟨_,_,_,_,b2,rfl,rfl,h1,rfl⟩)
   | skip
theorem j5{ks:List FK}{X Y:List D}{b:Bool}(h:MK (.str::ks) X Y=some b):∃a c xs ys b2,X= .p (.str a)::xs/\Y= .p (.str c)::ys/\MK ks xs ys=some b2/\b=(decide (a=c)&&b2):=by
 unfold MK at h;split at h<;>try (first | (cases h;done) | (rename_i e0 _ _;cases e0;done) | (rename_i e0;cases e0;done))
 all_goals first
   | (rename_i e0
      injection e0 with e1 e2
      subst e2;obtain ⟨b2,h1,rfl⟩:=BC.1 h;exact ⟨_,_,_,_,b2,rfl,rfl,h1,rfl⟩)
   | skip
theorem ME{s:Nat->Option Sg}{vx vy:Array Value}{xs ys:List D}(hlx:vx.size=xs.length)(hly:vy.size=ys.length)(hx:∀(i:Nat) c,xs[i]?=some c->DR F w M s c (vx.getD i undef))(hy:∀(i:Nat) c,ys[i]?=some c->DR F w M s c (vy.getD i undef))(d:Nat):
   ∀(fs:List Field) (i:Nat) (ks:List FK) (b:Bool),Jw P i fs=some ks->MK ks (xs.drop i) (ys.drop i)=some b->(Op.eqFields (d+1) vx vy fs).run P w= .ok b w:=by
 intro fs
 induction fs with
 | nil=>
   intro i ks b hf hc;simp only[Jw,Al] at hf;subst hf;cases HE:xs.drop i<;>cases PB:ys.drop i<;>rw[HE,PB] at hc<;>simp[MK] at hc;subst hc;rfl
 | cons f fs ih=>
   intro i ks b hf hc;simp only[Jw] at hf;split at hf
   case isFalse=>cases hf
   rename_i hn;obtain ⟨hn,Bbh⟩:=hn;have R8:∀{zs:List D} {q:D} {r:List D},zs.drop i=q::r->zs[i]?=some q/\i<zs.length/\zs.drop (i+1)=r:=λ {zs q r} h=>by
     have h1:i<zs.length:=by
       by_cases h2:i<zs.length
       . exact h2
       . rw[List.drop_eq_nil_of_le (by omega)] at h;cases h
     rw[AX h1] at h;cases h;exact ⟨by simp,h1,rfl⟩
   have step:∀{u:TypeDesc} {inf:TypeInfo} (hu:P.underlying f.type=some u) (hi:P.info? f.type=some inf) (ha:(TK.of u).isAgg=false) {b1 b2:Bool} {p q:Value},
       vx.getD i undef=p->vy.getD i undef=q->i<vx.size->i<vy.size->(Op.equalIn (d+1) f.type p q).run P w= .ok b1 w->(b1=true->(Op.eqFields (d+1) vx vy fs).run P w= .ok b2 w)->
       (Op.eqFields (d+1) vx vy (f::fs)).run P w= .ok (b1&&b2) w:=by
     intro u inf hu hi ha b1 b2 p q hp hq hlx' hly' he hr;simp only[Op.eqFields,hn,ne_eq,not_false_eq_true,AM,Sem.run_bind];rw[MZ (w:=w) hi hu (λ _=>by omega)];simp only[ha,Bbh,hp,Result.andThen_ok,AJ,A9];rw[MZ (w:=w) hi hu (λ _=>by omega)];simp only[ha,hq,Result.andThen_ok,he,AJ,A9];cases b1
     . simp
     . simp[hr rfl]
   have both:∀(l:List FK) {x y:D} {xr yr:List D} {b2:Bool},xs.drop i=x::xr->ys.drop i=y::yr->Jw P (i+1) fs=some l->MK l xr yr=some b2->(Op.eqFields (d+1) vx vy fs).run P w= .ok b2 w:=by
     intro l x y xr yr b2 HE PB hl Vb;obtain ⟨_,_,rx⟩:=R8 HE;obtain ⟨_,_,ry⟩:=R8 PB;exact ih (i+1) l b2 hl (by rw[rx,ry];exact Vb)
   split at hf
   . rename_i l h1 h2;simp only[Al] at hf;subst hf;obtain ⟨inf,u,z,hi,hu,_,e⟩:=Cd h1;simp only[TI.mk.injEq] at e;obtain rfl:=TK.of_int e.2.2.1.symm;obtain ⟨k1,a1,a2,xr,yr,b2,HE,PB,Vb,rfl⟩:=Ant hc;obtain ⟨gx,lx,_⟩:=R8 HE;obtain ⟨gy,ly,_⟩:=R8 PB;have dx:=hx i _ gx;have dy:=hy i _ gy;refine step hu hi rfl (p:= .int k1 a1) (q:= .int k1 a2) ?_ ?_ (by omega) (by omega) ?_ (λ _=>both l HE PB h2 Vb)
     . generalize vx.getD i undef=v at dx;cases dx with | p h=>cases h;rfl
     . generalize vy.getD i undef=v at dy;cases dy with | p h=>cases h;rfl
     . rw[run_equalIn_int w d f.type k1 _ a1 a2 hu,SH]
   . rename_i l h1 h2;simp only[Al] at hf;subst hf;obtain ⟨inf,u,z,hi,hu,_,e⟩:=Cd h1;simp only[TI.mk.injEq] at e;obtain rfl:=TK.of_bool e.2.2.1.symm;obtain ⟨a1,a2,xr,yr,b2,HE,PB,Vb,rfl⟩:=Ahj hc;obtain ⟨gx,lx,_⟩:=R8 HE;obtain ⟨gy,ly,_⟩:=R8 PB;have dx:=hx i _ gx;have dy:=hy i _ gy;refine step hu hi rfl (p:= .bool a1) (q:= .bool a2) ?_ ?_ (by omega) (by omega) ?_ (λ _=>both l HE PB h2 Vb)
     . generalize vx.getD i undef=v at dx;cases dx with | p h=>cases h;rfl
     . generalize vy.getD i undef=v at dy;cases dy with | p h=>cases h;rfl
     . exact run_equalIn_bool' w d f.type a1 a2 hu
   . rename_i l h1 h2;simp only[Al] at hf;subst hf;obtain ⟨inf,u,z,hi,hu,_,e⟩:=Cd h1;simp only[TI.mk.injEq] at e;obtain rfl:=TK.of_string e.2.2.1.symm;obtain ⟨a1,a2,xr,yr,b2,HE,PB,Vb,rfl⟩:=j5 hc;obtain ⟨gx,lx,_⟩:=R8 HE;obtain ⟨gy,ly,_⟩:=R8 PB;have dx:=hx i _ gx;have dy:=hy i _ gy;refine step hu hi rfl (p:= .string ⟨a1.toArray⟩) (q:= .string ⟨a2.toArray⟩) ?_ ?_ (by omega) (by omega) ?_ (λ _=>both l HE PB h2 Vb)
     . generalize vx.getD i undef=v at dx;cases dx with | p h=>cases h;rfl
     . generalize vy.getD i undef=v at dy;cases dy with | p h=>cases h;rfl
     . rw[run_equalIn_string w d f.type _ _ hu,ByteArray.toList_eq,ByteArray.toList_eq,SH]
   . cases hf
def Wl(e:TypeId)(i:Nat):Field:={name:= "x",type:=e,offset:=i,embedded:=false,tag:= "",pkgPath:= "",byteOffset:=0}
def T7(e:TypeId)(s n:Nat):List Field:=(List.range' s n).map (Wl e)
theorem run_equalIn_array{P:Program}(w:World)(d:Nat)(t e:TypeId)(n:Nat)(xs ys:Array Value)(ht:P.underlying t=some (.array n e)){i:TypeInfo}(hi:P.info? e=some i)(hs:i.size=1):
   (Op.equalIn (d+1) t (.agg xs) (.agg ys)).run P w=(Op.eqFields d xs ys (T7 e 0 n)).run P w:=by
 simp only[Op.equalIn,Sem.run_bind,run_underlying ht,Result.andThen_ok,Dh hi,hs,Nat.mul_one];rw[Std.Legacy.Range.forIn_eq_forIn_range'];simp only[Std.Legacy.Range.size,Nat.sub_zero,Nat.add_sub_cancel,Nat.div_one];unfold T7;generalize List.range' 0 n=fs
 induction fs generalizing w with
 | nil=>simp[Op.eqFields]
 | cons f fs ih=>
   simp only[List.forIn_cons,AD,Op.eqFields,Wl,Sem.run_bind,Sem.run_ite];rw[if_pos (by decide)];generalize (part e xs f).run P w=r1;cases r1 with
   | ok a w1=>
     simp only[Result.andThen_ok];generalize (part e ys f).run P w1=r2;cases r2 with
     | ok b w2=>
       simp only[Result.andThen_ok];generalize (Op.equalIn d e a b).run P w2=r3;cases r3 with
       | ok r w3=>
         cases r
         . simp only[Result.andThen_ok,Bool.not_false,AM,Sem.run_pure]
         . simp only[Result.andThen_ok,Bool.not_true,AJ,A9,Sem.run_pure];exact ih w3
       | halt x w3=>simp[Result.andThen]
     | halt x w2=>simp[Result.andThen]
   | halt x w1=>simp[Result.andThen]
theorem T2{P:Program}{e:TypeId}{k:FK}(h:∀s,Jw P s [Wl e s]=some [k]):∀n s,Jw P s (T7 e s n)=some (List.replicate n k)
 | 0,s=>rfl
 | n+1,s=>by
   have h1:=h s;have h2:=T2 h n (s+1);have e1:T7 e s (n+1)=Wl e s::T7 e (s+1) n:=by simp[T7,List.range'_succ]
   rw[e1];simp only[Jw] at h1 ⊢;rw[h2];split at h1
   case isFalse=>cases h1
   rename_i hc;rw[if_pos hc];split at h1<;>simp_all [List.replicate_succ]
theorem Aam{P:Program}{e:TypeId}{k:FK}(h:Ace P e=some k):(∃i,P.info? e=some i/\i.size=1)/\∀s,Jw P s [Wl e s]=some [k]:=by
 unfold Ace at h;split at h
 case h_4=>cases h
 all_goals
   rename_i h1;obtain ⟨i,u,z,hi,hu,hz,e1⟩:=Cd h1;simp only[TI.mk.injEq] at e1;refine ⟨⟨i,hi,e1.1.symm⟩,λ s=>?_⟩;simp only[Al] at h;subst h;simp[Jw,Wl,h1]
theorem R6{s:Nat->Option Sg}{vx vy:Value}{t:TypeId}{xs ys:List D}{b:Bool}(h:T9 P t xs ys=some b)(hx:DR F w M s (.agg xs) vx)(hy:DR F w M s (.agg ys) vy):
   P.eqGuardType P.depth t=false/\∃as bs,vx= .agg as/\vy= .agg bs/\(Op.equalIn 10000 t (.agg as) (.agg bs)).run P w= .ok b w:=by
 unfold T9 Wg at h;obtain ⟨ks,h1,h2⟩:=Option.bind_eq_some_iff.1 h;split at h1
 case isFalse=>cases h1
 rename_i h3;split at h1
 case h_3=>cases h1
 case h_2=>
   rename_i n e hu;cases hk:Ace P e with
   | none=>rw[hk] at h1;cases h1
   | some kk=>
     rw[hk] at h1;simp only[Bn,Al] at h1;subst h1;obtain ⟨⟨i,hi,hs⟩,OW⟩:=Aam hk;cases hx with | agg _ as hl1 h4=>
     cases hy with | agg _ bs Sp h5=>
     refine ⟨h3.1,as,bs,rfl,rfl,?_⟩;rw[run_equalIn_array w 9999 t e n as bs hu hi hs];exact ME hl1 Sp h4 h5 9998 (T7 e 0 n) 0 _ b (T2 OW n 0) (by simpa using h2)
 rename_i fs hu;cases hx with | agg _ as hl1 h4=>
 cases hy with | agg _ bs Sp h5=>
 refine ⟨h3.1,as,bs,rfl,rfl,?_⟩;have hf:P.fieldsOf t=fs:=by simp[Program.fieldsOf,hu]
 rw[run_equalIn_struct w 9999 t as bs (by rw[hf];exact hu) h3.2,hf];exact ME hl1 Sp h4 h5 9998 fs.toList 0 ks b h1 (by simpa using h2)
theorem l7{op:BinOp}{x y:D}{k:D->Prop}{t:TypeId}(h:MP P op t x y k){s:Nat->Option Sg}{vx vy:Value}(hx:DR F w M s x vx)(hy:DR F w M s y vy)(ox oy:Operand):
   ∃d v,k d/\DR F w M s d v/\(do eqGuard op t ox oy vx vy;binOp op t vx vy:Sem Value).run P w= .ok v w:=by
 unfold MP at h;split at h
 . rename_i p q;split at h
   . rename_i h1;obtain ⟨_,u1,_,_,Fq,_,e1⟩:=Cd h1;simp only[TI.mk.injEq] at e1;obtain rfl:=TK.of_bool e1.2.2.1.symm;cases hx with | p hx=>cases hx;cases hy with | p hy=>
     cases hy;have he:(Op.equal t (.bool p) (.bool q)).run P w= .ok (p==q) w:=run_equalIn_bool' w _ t p q Fq;exact ⟨_,_,h,.p (.bool _),by simp[eqGuard,binOp,he]⟩
   . exact h.elim
 . rename_i p q;split at h
   . rename_i h1;obtain ⟨_,u1,_,_,Fq,_,e1⟩:=Cd h1;simp only[TI.mk.injEq] at e1;obtain rfl:=TK.of_bool e1.2.2.1.symm;cases hx with | p hx=>cases hx;cases hy with | p hy=>
     cases hy;have he:(Op.equal t (.bool p) (.bool q)).run P w= .ok (p==q) w:=run_equalIn_bool' w _ t p q Fq;exact ⟨_,_,h,.p (.bool _),by simp[eqGuard,binOp,he]⟩
   . exact h.elim
 . rename_i xs ys;split at h
   . rename_i b he;obtain ⟨hg,as,bs,rfl,rfl,hr⟩:=R6 he hx hy;refine ⟨_,_,h,.p (.bool _),?_⟩;rw[Sem.run_bind,run_eqGuard_agg w .eql t ox oy as bs hg,Result.andThen_ok,run_eql_struct w t as bs,hr];rfl
   . exact h.elim
 . rename_i xs ys;split at h
   . rename_i b he;obtain ⟨hg,as,bs,rfl,rfl,hr⟩:=R6 he hx hy;refine ⟨_,_,h,.p (.bool _),?_⟩;rw[Sem.run_bind,run_eqGuard_agg w .neq t ox oy as bs hg,Result.andThen_ok,run_neq_struct w t as bs,hr];rfl
   . exact h.elim
 . rename_i es;split at h
   . rename_i e z h1;obtain ⟨Dl,h⟩:=h;obtain ⟨_,u1,_,_,Fq,_,e1⟩:=Cd h1;simp only[TI.mk.injEq] at e1;obtain rfl:=TK.of_slice e1.2.2.1.symm;cases hy with | cl _ ad hy hn=>
     obtain rfl:=hn rfl;cases hx with | p hx=>
     cases hx with
     | Vz _ _=>exact (Dl rfl).elim
     | sl _ b off cap sz row t2 fr hF hh hc hs hi hp=>
       have he:=Lib.run_eql_slice_nil w t _ (some ⟨b,off,none⟩) es.length cap 0 0 Fq;exact ⟨_,_,h,.p (.bool _),by simpa [eqGuard] using he⟩
   . exact h.elim
 . rename_i es;split at h
   . rename_i e z h1;obtain ⟨_,u1,_,_,Fq,_,e1⟩:=Cd h1;simp only[TI.mk.injEq] at e1;obtain rfl:=TK.of_slice e1.2.2.1.symm;cases hy with | cl _ ad hy hn=>
     obtain rfl:=hn rfl;cases hx with | cl _ ad2 hx hn2=>
     have he:=Lib.run_eql_slice_nil w t _ ad2 es.length es.length 0 0 Fq;have hb:ad2.isNone=es.isEmpty:=by
       cases es with
       | nil=>rw[hn2 rfl];rfl
       | cons x r=>cases hx;rfl
     rw[hb] at he;exact ⟨_,_,h,.p (.bool _),by simpa [eqGuard] using he⟩
   . exact h.elim
 . exact Abg h hx hy t ox oy
theorem XK{t:TypeId}{x:D}{f:Nat}{k:D->Prop}(h:T5 P t x f k){s:Nat->Option Sg}{vx:Value}(hx:DR F w M s x vx):
   ∃d v,k d/\DR F w M s d v/\(Instr.field t vx f).run P w= .ok v w:=by
 unfold T5 at h;cases ht:CC P t with
 | none=>rw[ht] at h;simp at h
 | some ti=>
   obtain ⟨i,u,z,hi,hu,hz,rfl⟩:=Cd ht;rw[ht] at h;(try simp only at h);split at h
   case h_2=>exact h.elim
   rename_i fs z' he;simp only[Al,TI.mk.injEq] at he;obtain ⟨gs,rfl,rfl⟩:=TK.of_struct he.2.2.1;rw[AQ] at h;cases hf:gs.toList[f]? with
   | none=>rw[hf] at h;simp at h
   | some fd=>
     rw[hf] at h;simp only[Bn] at h;have hf':gs[f]?=some fd:=by simpa using hf
     cases x with
     | agg cs=>
       simp only at h;cases NL:CC P fd.type with
       | none=>rw[NL] at h;exact h.elim
       | some tj=>
         rw[NL] at h;obtain ⟨i2,u2,z2,EP,LM,_,rfl⟩:=Cd NL;cases hx with
         | agg _ vs hl hc=>
           obtain ⟨h1,h2,d,hk,hd⟩:=L9 (F:=F) (w:=w) (M:=M) h (s:=s) hl hc;exact ⟨d,_,hk,hd,by simp only[Instr.field,Sem.run_bind,run_underlying hu,Result.andThen_ok,hf',asAgg,Sem.run_pure];exact MZ EP LM h2⟩
     | _=>simp at h
theorem Xs{t:TypeId}{x y:D}{k:D->Prop}(h:TE P t x y k){s:Nat->Option Sg}{vx vy:Value}(hx:DR F w M s x vx)(hy:DR F w M s y vy):
   ∃d v,k d/\DR F w M s d v/\(Instr.index t vx vy).run P w= .ok v w:=by
 unfold TE at h;split at h
 . rename_i _ _ _ l kd n h1;obtain ⟨i1,u1,_,_,Fq,_,e1⟩:=Cd h1;simp only[TI.mk.injEq] at e1;have hu':=TK.of_string e1.2.2.1.symm;subst hu';cases hx with | p hx=>
     cases hx;cases hy with | p hy=>
       cases hy;obtain ⟨⟨h0,h2⟩,h⟩:=h;have Ct:n.toNat<l.length:=by omega
       refine ⟨_,.int .u8 (l.getD n.toNat 0).toNat,h,.p (.int _ _),?_⟩;have hb:(⟨l.toArray⟩:ByteArray)[n.toNat]?=some (l.getD n.toNat 0):=by
         rw[ByteArray.getElem?_lt' _ _ (by simpa [ByteArray.size] using Ct)];simp[List.getD,Ct];rfl
       simp only[Instr.index,asIntOf,Sem.run_bind,Sem.run_pure,run_underlying Fq,Result.andThen_ok,h0,AM,hb]
 . rename_i _ _ _ m e _ cs kd n h1;obtain ⟨i1,u1,_,_,Fq,_,e1⟩:=Cd h1;simp only[TI.mk.injEq] at e1;have hu':=TK.of_array e1.2.2.1.symm;subst hu';cases NL:CC P e with
   | none=>rw[NL] at h;exact h.elim
   | some tj=>
     rw[NL] at h;obtain ⟨i2,u2,z2,EP,LM,_,rfl⟩:=Cd NL;obtain ⟨⟨h0,h2⟩,h⟩:=h;cases hx with
     | agg _ vs hl hc=>
       cases hy with | p hy=>
         cases hy;obtain ⟨h3,h4,d,hk,hd⟩:=L9 (F:=F) (w:=w) (M:=M) h (s:=s) hl hc;exact ⟨d,_,hk,hd,by simp only[Instr.index,asIntOf,Sem.run_bind,Sem.run_pure,run_underlying Fq,Result.andThen_ok,h0,h2,and_self,AM,Dh EP w];exact MZ EP LM h4⟩
 . exact h.elim
theorem T8{x:D}{i:Nat}{k:D->Prop}(h:MD x i k){s:Nat->Option Sg}{vx:Value}(hx:DR F w M s x vx):
   ∃d v,k d/\DR F w M s d v/\(Instr.extract vx i).run P w= .ok v w:=by
 unfold MD at h;split at h
 . rename_i cs;cases hx with
   | Dg _ vs hl hc=>
     cases hd:cs[i]? with
     | none=>rw[hd] at h;exact h.elim
     | some d=>
       rw[hd] at h;have Ct:=(An.1 hd).1;refine ⟨d,_,h,hc i d hd,?_⟩;have:i<vs.size:=by omega
       simp[Instr.extract,this]
 . exact h.elim
end
end Go.Am
namespace Go.Am
open Go
section
variable {P:Program} {c:Ctx} {st:St} {a:Act} {w:World} {F:Nat->Prop} {M:Nat->Mb}
theorem IN{t e:TypeId}{i:TypeInfo}(hu:P.underlying t=some (.slice e))(hi:P.info? e=some i){ad:Addr}{len cap:Nat}{k:IntKind}{n:Int}(hn:0<=n/\n<len):
   (Instr.indexAt t (.slice (some ad) len cap) (.int k n)).run P w= .ok (.pointer (some (ad.add (n.toNat*i.size)))) w:=by
 simp[Instr.indexAt,run_underlying hu,asIntOf,hn,Dh hi]
theorem Kj{t e:TypeId}{m:Nat}{i:TypeInfo}(hu:P.underlying t=some (.array m e))(hi:P.info? e=some i){ad:Addr}{k:IntKind}{n:Int}(hn:0<=n/\n<m):
   (Instr.indexAt t (.pointer (some ad)) (.int k n)).run P w= .ok (.pointer (some (ad.add (n.toNat*i.size)))) w:=by
 simp[Instr.indexAt,run_underlying hu,asIntOf,hn,Dh hi,Instr.sureAddr]
theorem YW{es:List (List Pd)}{v:Value}(h:PR F w (.sl es) v){n:Nat}(hn:n<es.length){s:Nat->Option Sg}:
   ∃b off cap sz,v= .slice (some ⟨b,off,none⟩) es.length cap/\(es.getD n []).length=sz/\DR F w M s (.pe (es.getD n [])) (.pointer (some ⟨b,off+n*sz,none⟩)):=by
 cases h with
 | Vz=>simp at hn
 | sl _ b off cap sz row t fr hF hh hc hs hi hp=>
   have he:es[n]?=some (es.getD n []):=by simp[List.getD,hn]
   exact ⟨b,off,cap,sz,rfl,hs n _ he,.pe _ b (off+n*sz) row t fr hF hh (λ j c hj=>hi n _ j c he hj) (λ j c hj=>hp n _ j c he hj)⟩
theorem QY{t:TypeId}{x y:D}{hp:Hp}{k:D->Prop}(h:Jn P t x y hp k){vx vy:Value}(hx:DR F w M (sg hp) x vx)(hy:DR F w M (sg hp) y vy):
   ∃d v,k d/\DR F w M (sg hp) d v/\(Instr.indexAt t vx vy).run P w= .ok v w:=by
 unfold Jn at h;split at h
 . rename_i _ _ _ _ e _ kd n h1;obtain ⟨i1,u1,_,_,Fq,_,e1⟩:=Cd h1;simp only[TI.mk.injEq] at e1;have hu':=TK.of_slice e1.2.2.1.symm;subst hu';cases NL:CC P e with
   | none=>rw[NL] at h;exact h.elim
   | some tj=>
     rw[NL] at h;(try simp only at h);obtain ⟨i2,u2,z2,EP,LM,_,e5⟩:=Cd NL;subst e5;cases hy with | p hy=>
       cases hy;split at h
       . rename_i es _;obtain ⟨hn,Em,h⟩:=h;cases hx with | p hx=>
           obtain ⟨b,off,cap,sz,rfl,h3,h4⟩:=YW (M:=M) hx (n:=n.toNat) (by omega) (s:=sg hp);have e2:sz=i2.size:=h3.symm.trans Em;subst e2;exact ⟨_,_,h,h4,by rw[IN Fq EP hn,Addr.add_lit]⟩
       . rename_i es _;obtain ⟨hn,Em,h⟩:=h;cases hx with | cl _ ad hx _=>
           obtain ⟨b,off,cap,sz,e3,h3,h4⟩:=YW (M:=M) hx (n:=n.toNat) (by omega) (s:=sg hp);have e2:sz=i2.size:=h3.symm.trans Em;subst e2;cases e3;exact ⟨_,_,h,h4,by rw[IN Fq EP hn,Addr.add_lit]⟩
       . rename_i id off len N;cases hx with
         | ref _ _ _ _ sz m v hs hN _ h2=>
           rw[hs] at h;simp only at h;obtain ⟨hn,rfl,rfl,h⟩:=h;obtain ⟨ad,cap,rfl,h3,h4,h5,h6⟩:=h2 rfl;have h7:ad=some ⟨(M id).Dt,off*i2.size,none⟩:=h6.resolve_left (by omega);subst h7;refine ⟨_,_,h,.ea id (off+n.toNat) 0 N i2.size N _ hs (Ai _) ⟨_,rfl⟩ (λ _=>⟨rfl,by omega⟩),?_⟩;rw[IN Fq EP hn,Addr.add_lit];simp only[Bf,Bj]
       . rename_i id N;obtain ⟨hn,Em,h⟩:=h;cases hx with
         | Di _ _ sz m k v hs hN hv h2=>
           obtain ⟨ad,cp,rfl,hb⟩:=hv;obtain ⟨b,rfl⟩:=hb.resolve_left (by omega);refine ⟨_,_,h,.LL id n.toNat N sz m k b hs hN (by omega) (λ e=>?_),?_⟩
           . obtain ⟨a2,c2,g1,g2,g3,g4,g5⟩:=h2 e;cases g1;rcases g5 with g5 | g5
             . omega
             . cases g5;exact ⟨rfl,by omega⟩
           . simp only at Em;rw[IN Fq EP hn,Addr.add_lit,Em];simp
       . exact h.elim
 . rename_i _ _ _ _ m e _ kd n h1;obtain ⟨i1,u1,_,_,Fq,_,e1⟩:=Cd h1;simp only[TI.mk.injEq] at e1;have hu':=TK.of_array e1.2.2.1.symm;subst hu';cases NL:CC P e with
   | none=>rw[NL] at h;exact h.elim
   | some tj=>
     rw[NL] at h;(try simp only at h);obtain ⟨i2,u2,z2,EP,LM,_,e5⟩:=Cd NL;subst e5;cases hy with | p hy=>
       cases hy;split at h
       . rename_i _ _ _ id off e3;obtain ⟨hn,h⟩:=h;cases e3;cases hx with | ptr _ _ hs=>
           exact ⟨_,_,h,.ptr id _ hs,by rw[Kj Fq EP hn,Addr.add_lit]⟩
       . rename_i _ _ _ cs e3;obtain ⟨hn,h⟩:=h;cases e3;cases hx with
         | pe _ b off row e fr hF hh TS hp'=>
           refine ⟨_,_,h,.pe _ b (off+n.toNat*i2.size) row e fr hF hh (λ j c hj=>?_) (λ j c hj=>?_),by rw[Kj Fq EP hn,Addr.add_lit]⟩
           . rw[AV] at hj;have:=TS _ c hj;simp only at this;omega
           . rw[AV] at hj;have:=hp' _ c hj;rwa[Nat.add_assoc]
       . exact h.elim
 . exact h.elim
def SK(a:Act)(o:Option Operand)(XQ n:Int):Prop:=(o=none/\n=XQ)∨∃x kd,o=some x/\a.eval x= .int kd n
theorem Ei(hr:Rel c st a w F M){o:Option Operand}{XQ:Int}{k:Int->Prop}(h:Ff st o XQ k):∃n,k n/\SK a o XQ n:=by
 unfold Ff at h;cases o with
 | none=>exact ⟨XQ,h,.inl ⟨rfl,rfl⟩⟩
 | some x=>
   simp only at h;have hx:=Ci hr x;split at h
   . rename_i kd n he;rw[he] at hx;generalize hv:a.eval x=v at hx;cases hx with | p hx=>exact ⟨n,h,.inr ⟨x,kd,rfl,by cases hx;exact hv⟩⟩
   . exact h.elim
theorem Od{isSlice:Bool}{len cap:Nat}{lo hi:Option Operand}{x y:Int}(r5:SK a lo 0 x)(hhi:SK a hi len y)(h0:0<=x)(h1:x<=y)(h2:y<=cap):
   (Instr.sliceBounds isSlice len cap (lo.map a.eval) (hi.map a.eval) none).run P w= .ok (x.toNat,y.toNat,cap) w:=by
 have hy:((y.toNat:Nat):Int)=y:=by omega
 have hy0:0<=y:=by omega
 have hm:max y 0=y:=by omega
 rcases hhi with ⟨rfl,rfl⟩ | ⟨q,kq,rfl,hq⟩<;>rcases r5 with ⟨rfl,rfl⟩ | ⟨q',kq',rfl,Yh⟩
 . simp[Instr.sliceBounds]
 . simp[Instr.sliceBounds,Instr.sliceBound,asIntOf,h0,h1,Yh]
 . simp[Instr.sliceBounds,Instr.sliceBound,asIntOf,h2,hq,hy0]
 . simp[Instr.sliceBounds,Instr.sliceBound,asIntOf,h0,h1,h2,hq,Yh,hy0,hm]
theorem YP{len cap:Nat}{lo:Option Operand}{hi mx:Operand}{x y:Int}{kh kx:IntKind}(r5:SK a lo 0 x)
   (hhi:a.eval hi= .int kh y) (hmx:a.eval mx= .int kx y) (h0:0<=x) (h1:x<=y) (h2:y<=cap):
   (Instr.sliceBounds true len cap (lo.map a.eval) ((some hi).map a.eval) ((some mx).map a.eval)).run P w= .ok (x.toNat,y.toNat,y.toNat) w:=by
 have hy:((y.toNat:Nat):Int)=y:=by omega
 have hy0:0<=y:=by omega
 have hm:max y 0=y:=by omega
 rcases r5 with ⟨rfl,rfl⟩ | ⟨q',kq',rfl,Yh⟩
 . simp[Instr.sliceBounds,Instr.sliceBound,asIntOf,h2,hhi,hmx,hy0,hm]
 . simp[Instr.sliceBounds,Instr.sliceBound,asIntOf,h0,h1,h2,hhi,hmx,Yh,hy0,hm]
theorem JX{α:Type}(es:List α)(x y i:Nat):((es.take y).drop x)[i]?=if x+i<y then es[x+i]? else none:=by
 rw[AV,AH]
theorem PR.part{es:List (List Pd)}{len cap:Nat}{ad:Option Addr}(h:PR F w (.sl es) (.slice ad len cap)){x y m sz:Nat}(hx:x<=y)(hy:y<=es.length)(hm:y<=m)(hc:m<=cap)
   (Em:∀(i:Nat) e,es[i]?=some e->e.length=sz):
   PR F w (.sl ((es.take y).drop x)) (.slice (if m=x then ad else ad.map (·.add (x*sz))) (y - x) (m - x)):=by
 have hlen:((es.take y).drop x).length=y - x:=by simp;omega
 by_cases h0:y - x=0
 . have:(es.take y).drop x=[]:=A1 (by omega);rw[this,h0];exact .Vz _ _
 . cases h with
   | Vz=>simp at hy;omega
   | sl _ b off cap RC row t fr hF hh hc' hs hi hp=>
     have e1:es[0]?=some (es.getD 0 []):=by
       have:0<es.length:=by omega
       simp[List.getD,this]
     have e2:RC=sz:=(hs 0 _ e1).symm.trans (Em 0 _ e1);subst e2;rw[if_neg (by omega)];simp only[Bn,Addr.add_lit];rw[<-hlen];refine .sl _ b (off+x*RC) (m - x) RC row t fr hF hh (by omega) (λ i e he=>?_) (λ i e j q he hj=>?_) (λ i e j q he hj=>?_)
     . rw[JX] at he;split at he
       . exact hs _ _ he
       . cases he
     . rw[JX] at he;split at he
       . have:=hi _ _ j q he hj;rw[Bf] at this;omega
       . cases he
     . rw[JX] at he;split at he
       . have:=hp _ _ j q he hj;rw[Bf] at this;rwa[show off+x*RC+i*RC+j=off+(x*RC+i*RC)+j from by omega]
       . cases he
theorem KY{t e:TypeId}{i:TypeInfo}(hu:P.underlying t=some (.slice e))(hi:P.info? e=some i){ad:Option Addr}{len cap:Nat}{lo TS mx:Option Value}{x y m:Nat}
   (hb:(Instr.sliceBounds true len cap lo TS mx).run P w= .ok (x,y,m) w):
   (Instr.sliceAt t (.slice ad len cap) lo TS mx).run P w= .ok (.slice (if m=x then ad else ad.map (·.add (x*i.size))) (y - x) (m - x)) w:=by
 simp[Instr.sliceAt,Instr.slice,run_underlying hu,hb,Dh hi]
theorem W0(hr:Rel c st a w F M){t:TypeId}{x:D}{lo hi mx:Option Operand}{k:D->Prop}(h:S1 P st t x lo hi mx k){vx:Value}(hx:DR F w M (sg st.hp) x vx):
   ∃d v,k d/\DR F w M (sg st.hp) d v/\(Instr.sliceAt t vx (lo.map a.eval) (hi.map a.eval) (mx.map a.eval)).run P w= .ok v w:=by
 unfold S1 at h;split at h
 . rename_i _ _ _ l h1;obtain ⟨i1,u1,_,_,Fq,_,e1⟩:=Cd h1;simp only[TI.mk.injEq] at e1;have hu':=TK.of_string e1.2.2.1.symm;subst hu';obtain ⟨hmx,h⟩:=h;have Aut:mx=none:=by simpa using hmx
   subst Aut;obtain ⟨x,h,r5⟩:=Ei hr h;obtain ⟨y,h,hhi⟩:=Ei hr h;obtain ⟨⟨h0,h2,h3⟩,h⟩:=h;cases hx with | p hx=>
     cases hx;have hb:=Od (P:=P) (w:=w) (isSlice:=false) (len:=(⟨l.toArray⟩:ByteArray).size) (cap:=(⟨l.toArray⟩:ByteArray).size) r5 (by rw[Ig];exact hhi) h0 h2 (by rw[Ig];exact h3);refine ⟨_,_,h,.p (.str _),?_⟩;simp only[Instr.sliceAt,Instr.slice,Sem.run_bind,run_underlying Fq,Result.andThen_ok,Option.map_none,Bd,AJ,A9,Sem.run_ite,hb,Sem.run_pure]
     congr 2
     apply ByteArray.ext;apply Array.ext';simp[List.drop_take]
 . rename_i _ _ _ _ e _ h1;obtain ⟨i1,u1,_,_,Fq,_,e1⟩:=Cd h1;simp only[TI.mk.injEq] at e1;have hu':=TK.of_slice e1.2.2.1.symm;subst hu';cases NL:CC P e with
   | none=>rw[NL] at h;exact h.elim
   | some tj=>
     rw[NL] at h;obtain ⟨i2,u2,z2,EP,LM,_,rfl⟩:=Cd NL;simp only at h;split at h
     . rename_i es;cases hx with | p hx=>
         split at h
         . obtain ⟨x,h,r5⟩:=Ei hr h;obtain ⟨y,h,hhi⟩:=Ei hr h;obtain ⟨⟨h0,h2,h3⟩,Em,h⟩:=h;have TM:=hx;have hv:∃ad cap,vx= .slice ad es.length cap/\es.length<=cap:=by
             cases hx with
             | Vz ad cap=>exact ⟨_,_,rfl,by simp⟩
             | sl _ b off cap sz row t fr hF hh hc=>exact ⟨_,_,rfl,hc⟩
           obtain ⟨ad,cap,rfl,Ju⟩:=hv;have hb:=Od (P:=P) (w:=w) (isSlice:=true) (len:=es.length) (cap:=cap) r5 hhi h0 h2 (by omega);refine ⟨_,_,h,.p (TM.part (x:=x.toNat) (y:=y.toNat) (m:=cap) (by omega) (by omega) (by omega) (Ai _) Em),?_⟩;exact KY Fq EP hb
         . rename_i mq;obtain ⟨x,h,r5⟩:=Ei hr h;obtain ⟨y,h,hhi⟩:=Ei hr h;obtain ⟨q,h,hmx⟩:=Ei hr h;obtain ⟨⟨h0,h2,rfl,h3⟩,Em,Axd,hk⟩:=h;have TM:=hx;have hv:∃ad cap,vx= .slice ad es.length cap/\es.length<=cap:=by
             cases hx with
             | Vz ad cap=>exact ⟨_,_,rfl,by simp⟩
             | sl _ b off cap sz row t fr hF hh hc=>exact ⟨_,_,rfl,hc⟩
           obtain ⟨ad,cap,rfl,Ju⟩:=hv;obtain ⟨_,kq,e6,hq⟩:=hmx.resolve_left (by simp);cases e6;cases hi with
           | none=>simp at Axd
           | some hi=>
             obtain ⟨_,kh,e7,hh⟩:=hhi.resolve_left (by simp);cases e7;have hb:=YP (P:=P) (w:=w) (len:=es.length) (cap:=cap) r5 hh hq h0 h2 (by omega);have hp:=TM.part (x:=x.toNat) (y:=y.toNat) (m:=y.toNat) (by omega) (by omega) (Ai _) (by omega) Em;have hlen:((es.take y.toNat).drop x.toNat).length=y.toNat - x.toNat:=by simp;omega
             refine ⟨_,_,hk,?_,KY Fq EP hb⟩;rw[<-hlen] at hp ⊢;exact .cz _ _ hp
     . rename_i id off len N;cases hx with
       | ref _ _ _ _ sz m v hs hN _ h2=>
         rw[hs] at h;simp only at h;obtain ⟨hmx,rfl,h⟩:=h;have Aut:mx=none:=by simpa using hmx
         subst Aut;obtain ⟨x,h,r5⟩:=Ei hr h;obtain ⟨y,h,hhi⟩:=Ei hr h;obtain ⟨⟨h0,h5,h6⟩,h⟩:=h;obtain ⟨rfl,hk⟩:=h;obtain ⟨ad,cap,rfl,h7,h8,h9,JI⟩:=h2 rfl;have hb:=Od (P:=P) (w:=w) (isSlice:=true) (len:=len) (cap:=cap) r5 hhi h0 h5 (by omega);refine ⟨_,_,hk,?_,KY Fq EP hb⟩;refine .ref id (off+x.toNat) (y - x).toNat N i2.size N _ hs (Ai _) ⟨_,_,_,rfl⟩ (λ _=>?_);have e3:(y - x).toNat=y.toNat - x.toNat:=by omega
         rw[e3];refine ⟨_,_,rfl,by omega,by omega,by omega,?_⟩;by_cases hc:cap=x.toNat
         . left;omega
         . right;rw[if_neg hc];have r7:=JI.resolve_left (by omega);rw[r7];simp only[Bn,Addr.add_lit,Bf]
     . exact h.elim
 . exact h.elim
def IW(F:Nat->Prop)(w:World)(M:Nat->Mb)(s:Nat->Option Sg)(cs:List D)(vs:List Value):Prop:=
 vs.length=cs.length/\∀(i:Nat) c,cs[i]?=some c->DR F w M s c (vs.getD i undef)
theorem IW.append{s:Nat->Option Sg}{cs cs':List D}{vs vs':List Value}(h:IW F w M s cs vs)(h':IW F w M s cs' vs'):IW F w M s (cs++cs') (vs++vs'):=by
 refine ⟨by simp[h.1,h'.1],λ i c hc=>?_⟩;rw[AN] at hc;have h1:=h.1;split at hc
 . rename_i Ct;have:=h.2 i c hc;rw[Ay] at this ⊢;rwa[AW (by omega)]
 . rename_i hge;have:=h'.2 _ c hc;rw[Ay] at this ⊢;rwa[Bg (by omega),h1]
theorem IW.take{s:Nat->Option Sg}{cs:List D}{vs:List Value}(h:IW F w M s cs vs)(n:Nat):IW F w M s (cs.take n) (vs.take n):=by
 refine ⟨by simp[h.1],λ i c hc=>?_⟩;rw[AH] at hc;split at hc
 . rename_i Ct;have:=h.2 i c hc;rw[Ay] at this ⊢;rwa[AH,if_pos Ct]
 . cases hc
theorem IW.drop{s:Nat->Option Sg}{cs:List D}{vs:List Value}(h:IW F w M s cs vs)(n:Nat):IW F w M s (cs.drop n) (vs.drop n):=by
 refine ⟨by simp[h.1],λ i c hc=>?_⟩;rw[AV] at hc;have:=h.2 _ c hc;rw[Ay] at this ⊢;rwa[AV]
theorem DR.cells{s:Nat->Option Sg}{d:D}{v:Value}(h:DR F w M s d v)(hb:d.cells.all D.one=true∨∃cs,d= .agg cs):IW F w M s d.cells v.cells.toList:=by
 have one:∀{d:D} {v:Value},DR F w M s d v->v.cells=#[v]->d.cells=[d]->IW F w M s d.cells v.cells.toList:=by
   intro d v h e1 e2;rw[e1,e2];refine ⟨by simp,λ i c hc=>?_⟩;cases i with
   | zero=>simp only[List.getElem?_cons_zero,Option.some.injEq] at hc;subst hc;simpa [List.getD] using h
   | succ i=>simp at hc
 cases h with
 | p h=>refine one (.p h) ?_ rfl;cases h<;>rfl
 | agg cs vs hl hc=>exact ⟨by simp[Value.cells,D.cells,hl],λ i c h=>by have:=hc i c h;simpa [Value.cells,List.getD,Array.getD_eq_getD_getElem?] using this⟩
 | Dg cs vs hl hc=>rcases hb with hb | ⟨_,hb⟩<;>simp[D.cells,D.one] at hb
 | cl es ad h hn=>exact one (.cl es ad h hn) rfl rfl
 | cz es ad h=>exact one (.cz es ad h) rfl rfl
 | ref id off len N sz n v hs hN hv h=>obtain ⟨_,_,_,rfl⟩:=hv;exact one (.ref id off len N sz n _ hs hN ⟨_,_,_,rfl⟩ h) rfl rfl
 | ptr id off hs=>exact one (.ptr id off hs) rfl rfl
 | pe cs b off row t fr hF hh hi hp=>exact one (.pe cs b off row t fr hF hh hi hp) rfl rfl
 | ea id i c N sz n v hs hN hv h=>obtain ⟨_,rfl⟩:=hv;exact one (.ea id i c N sz n _ hs hN ⟨_,rfl⟩ h) rfl rfl
 | fn f cap vs hl h=>exact one (.fn f cap vs hl h) rfl rfl
 | np=>exact one .np rfl rfl
 | mv id hs=>exact one (.mv id hs) rfl rfl
 | Di id n sz m k v hs hN hv h=>obtain ⟨_,_,rfl,hx⟩:=hv;exact one (.Di id n sz m k _ hs hN ⟨_,_,rfl,hx⟩ h) rfl rfl
 | LL id i n sz m k b hs hN hi h=>exact one (.LL id i n sz m k b hs hN hi h) rfl rfl
 | nr id i len q sz m k v hs hN hv h=>obtain ⟨_,_,rfl⟩:=hv;exact one (.nr id i len q sz m k _ hs hN ⟨_,_,rfl⟩ h) rfl rfl
 | Qs v h=>exact one (.Qs v h) (by cases v<;>first | rfl | (simp[Value.oneCell'] at h)) rfl
 | bad v=>rcases hb with hb | ⟨_,hb⟩<;>simp[D.cells,D.one] at hb
end
end Go.Am
namespace Go.Am
open Go
section
variable {P:Program} {c:Ctx} {st:St} {a:Act} {w:World} {F:Nat->Prop} {M:Nat->Mb}
theorem ZA(off:Nat):∀(l:List Value) (k:Nat) (cells:Array Value),off+k+l.length<=cells.size->
   ((l.zipIdx k).foldl (λ cs q=>cs.setIfInBounds (off+q.2) q.1) cells).toList=cells.toList.take (off+k)++l++cells.toList.drop (off+k+l.length)
 | [],k,cells,_=>by simp
 | v::l,k,cells,h=>by
   simp only[Ar] at h;simp only[List.zipIdx_cons,Bo];rw[ZA off l (k+1) _ (by simp;omega)];simp only[Array.toList_setIfInBounds,Ar];have e1:(cells.toList.set (off+k) v).take (off+(k+1))=cells.toList.take (off+k)++[v]:=by
     rw[show off+(k+1)=(off+k)+1 from by omega,BQ,BE (by simp;omega),List.take_set_of_le (by omega)];rfl
   have e2:(cells.toList.set (off+k) v).drop (off+(k+1)+l.length)=cells.toList.drop (off+k+(l.length+1)):=by
     rw[List.drop_set_of_lt (by omega)]
     congr 1
     omega
   rw[e1,e2];simp
theorem OC(hr:Rel c st a w F M)(place:Nat->Option (Nat×Nat)):∀(parts:List (Nat×Operand)) (cs:List D) (vs:Array Value) (cs':List D),IW F w M (sg st.hp) cs vs.toList->
   GM place cs (parts.map λ q=>(q.1,ev st q.2))=some cs'->∃vs',Instr.fill place vs (parts.map λ q=>(q.1,a.eval q.2))=some vs'/\IW F w M (sg st.hp) cs' vs'.toList
 | [],cs,vs,cs',h,hf=>by
   simp only[Bk,GM,Al] at hf;subst hf;exact ⟨vs,by simp[Instr.fill],h⟩
 | (i,x)::parts,cs,vs,cs',h,hf=>by
   simp only[AD,GM] at hf;cases hp:place i with
   | none=>rw[hp] at hf;simp at hf
   | some q=>
     obtain ⟨off,size⟩:=q;rw[hp] at hf;simp only at hf;split at hf
     case isFalse=>cases hf
     rename_i hc;obtain ⟨h1,h2,h3⟩:=hc;have hx:=(Ci hr x).cells (.inl h3);have Em:(a.eval x).cells.size=size:=by have:=hx.1;simp at this;omega
     have hvs:vs.size=cs.length:=by have:=h.1;simpa using this
     obtain ⟨vs',h4,h5⟩:=OC hr place parts _ ((a.eval x).cells.zipIdx.foldl (λ cs q=>cs.setIfInBounds (off+q.2) q.1) vs) cs' (by
       rw[<-Array.foldl_toList,Array.toList_zipIdx,ZA off _ 0 vs (by simp;omega)];simp only[Bj,Array.length_toList,Em];exact ((h.take off).append hx).append (h.drop (off+size))) hf
     refine ⟨vs',?_,h5⟩;simp only[AD,Instr.fill,hp,Em];rw[if_neg (by simp;omega)];exact h4
theorem NU:∀(fs:List Field) (pl:List (Nat×Nat)),K2 P (fs.map λ f=>(f.offset,f.type))=some pl->
   fs.mapM (λ f=>(P.info? f.type).map λ i=>(f.offset,i.size))=some pl
 | [],pl,h=>by simp[K2] at h;subst h;rfl
 | f::fs,pl,h=>by
   simp only[AD,K2] at h;split at h
   . rename_i ti l h1 h2;obtain ⟨i,u,z,hi,_,_,rfl⟩:=Cd h1;cases h;simp[NU fs l h2,hi]
   . cases h
theorem Abj{z:Value}{zs:List D}(h:IS z= .agg zs):∃cs,z= .agg cs:=by
 cases z<;>first
   | exact ⟨_,rfl⟩
   | (simp[IS] at h;done)
   | (rename_i q;cases q<;>simp[IS] at h;done)
   | (rename_i ad l q;cases ad<;>(try cases l)<;>(try cases q)<;>simp[IS] at h)
theorem X2(hr:Rel c st a w F M){t:TypeId}{parts:Array (Nat×Operand)}{k:D->Prop}(h:Us P st t parts.toList k):
   ∃d v,k d/\DR F w M (sg st.hp) d v/\(Instr.build t (parts.map λ (i,x)=>(i,a.eval x))).run P w= .ok v w:=by
 have Aup:(parts.map λ (i,x)=>(i,a.eval x)).toList=parts.toList.map λ q=>(q.1,a.eval q.2):=by simp
 have key:∀(place:Nat->Option (Nat×Nat)) (z:Value) (zs cs:List D),IS z= .agg zs->GM place zs (parts.toList.map λ q=>(q.1,ev st q.2))=some cs->
     ∃vs,Instr.fill place z.cells (parts.map λ (i,x)=>(i,a.eval x)).toList=some vs/\DR F w M (sg st.hp) (.agg cs) (.agg vs):=by
   intro place z zs cs hz hf;obtain ⟨qs,rfl⟩:=Abj hz;have h0:=(Km F w M (sg st.hp) (.agg qs)).cells (.inr ⟨_,hz⟩);rw[hz] at h0;obtain ⟨vs,h1,h2⟩:=OC hr place parts.toList zs qs cs h0 hf;exact ⟨vs,by rw[Aup];exact h1,.agg _ _ (by simpa using h2.1) (λ i c hc=>by have:=h2.2 i c hc;simpa [List.getD,Array.getD_eq_getD_getElem?] using this)⟩
 unfold Us at h;split at h
 . rename_i _ _ _ fs zd h1;obtain ⟨i1,u1,z1,NJ,Fq,hz1,e1⟩:=Cd h1;simp only[TI.mk.injEq] at e1;obtain ⟨_,_,e2,rfl⟩:=e1;obtain ⟨gs,rfl,rfl⟩:=TK.of_struct e2.symm;split at h
   case h_2=>exact h.elim
   rename_i pl zs hpl hz;split at h
   case h_2=>exact h.elim
   rename_i cs hf;obtain ⟨vs,h2,h3⟩:=key _ z1 zs cs hz hf;refine ⟨_,_,h,h3,run_build w t _ vs ?_⟩;unfold Program.built;simp only[NJ,Fq,hz1,NU _ _ hpl]
   simpa using h2
 . rename_i _ _ _ m e zd h1;obtain ⟨i1,u1,z1,NJ,Fq,hz1,e1⟩:=Cd h1;simp only[TI.mk.injEq] at e1;obtain ⟨_,_,e2,rfl⟩:=e1;obtain rfl:=TK.of_array e2.symm;split at h
   case h_2=>exact h.elim
   rename_i tj zs NL hz;obtain ⟨i2,u2,z2,EP,LM,_,rfl⟩:=Cd NL;split at h
   case h_2=>exact h.elim
   rename_i cs hf;obtain ⟨vs,h2,h3⟩:=key _ z1 zs cs hz hf;refine ⟨_,_,h,h3,run_build w t _ vs ?_⟩;unfold Program.built;simp only[NJ,Fq,hz1,EP,h2]
 . exact h.elim
theorem Pd.S5{kk:KK}{key q:Pd}{d:TypeDesc}(hd:match kk with | .int x=>d= .int x | .str=>d= .string)(hf:kk.fit key=true){b:Bool}(h:Pd.same key q=some b):Instr.sameNow d key.val q.val=some b:=by
 cases kk with
 | int x=>
   simp only at hd;subst hd;cases key<;>simp[KK.fit] at hf;cases q<;>simp[Pd.same] at h;simp only[Pd.val,Instr.sameNow];obtain ⟨h1,h2⟩:=h;rw[if_pos h1,h2]
 | str=>
   simp only at hd;subst hd;cases key<;>simp[KK.fit] at hf;cases q<;>simp[Pd.same] at h;simp only[Pd.val,Instr.sameNow,Al];rw[<-h,Bp];rw[MapKept.bytes_beq];constructor
   . intro h3;have h4:=AR (λ z:ByteArray=>z.data.toList) h3
     simpa using h4
   . intro h3;have h4:=eq_of_beq h3;rw[h4]
theorem Pd.Apg{a b:Pd}(h:Pd.same a b=some true):a.val=b.val:=by
 cases a<;>cases b<;>simp[Pd.same] at h
 . obtain ⟨rfl,rfl⟩:=h;rfl
 . subst h;rfl
theorem Mg{kk:KK}{key:Pd}{d:TypeDesc}(hd:match kk with | .int x=>d= .int x | .str=>d= .string)(hf:kk.fit key=true):
   ∀(es:List MapEntry) (l:List (Pd×Pd)) (n:Nat),es.map (λ e=>(e.key,e.val))=l.map (λ p=>(p.1.val,p.2.val))->QS key l->
     (∃v i,Tr key l=some v/\Instr.findNow d key.val es n=some (some (n+i,v.val))/\v∈l.map (·.2)/\(∃e,es[i]?=some e/\e.key=key.val)/\
       ∀x:Pd,(es.modify i λ e=>{e with key:=key.val,val:=x.val}).map (λ e=>(e.key,e.val))=(Kq key x l).map (λ p=>(p.1.val,p.2.val)))∨
     (Tr key l=none/\Instr.findNow d key.val es n=some none/\∀x,Kq key x l=l++[(key,x)])
 | [],[],n,_,_=> .inr ⟨rfl,rfl,λ _=>rfl⟩
 | [],_::_,n,h,_=>by simp at h
 | _::_,[],n,h,_=>by simp at h
 | e::es,(q,v)::l,n,h,hm=>by
   simp only[AD,List.cons.injEq,Prod.mk.injEq] at h;obtain ⟨⟨h1,h2⟩,h3⟩:=h;unfold QS Lz at hm;cases hs:Pd.same key q with
   | none=>rw[hs] at hm;simp at hm
   | some b=>
     have hn:=Pd.S5 hd hf hs;cases b with
     | true=>exact .inl ⟨v,0,by simp[Tr,Lz,hs],by simp[Instr.findNow,h1,hn,h2],by simp,⟨e,rfl,h1.trans (Pd.Apg hs).symm⟩,λ x=>by simp[Kq,hs,h3]⟩
     | false=>
       rw[hs] at hm;rcases Mg hd hf es l (n+1) h3 hm with ⟨v',i,g1,g2,g3,⟨e',g4,g5⟩,g6⟩ | ⟨g1,g2,g3⟩
       . refine .inl ⟨v',i+1,?_,?_,List.mem_cons_of_mem _ g3,⟨e',by simpa using g4,g5⟩,λ x=>by simp[Kq,hs,h1,h2,g6 x]⟩
         . unfold Tr at g1 ⊢;simp only[Lz,hs];exact g1
         . simp only[Instr.findNow,h1,hn,g2];congr 3;omega
       . refine .inr ⟨?_,?_,λ x=>by simp[Kq,hs,g3 x]⟩
         . unfold Tr at g1 ⊢;simp only[Lz,hs];exact g1
         . simp only[Instr.findNow,h1,hn,g2]
theorem K4{t:TypeId}{kk:KK}{z:Pd}(h:mapOf P t=some (kk,z)):∃kt e d i zv,P.underlying t=some (.map kt e)/\P.underlying kt=some d/\(match kk with | .int x=>d= .int x | .str=>d= .string)/\
   P.info? e=some i/\i.zero=some zv/\zv=z.val/\z.flat=true:=by
 unfold mapOf at h;split at h
 case h_2=>cases h
 rename_i kt e hu;have hz:∀{zv:Value} {y:Pd},pdV zv=some y->zv=y.val/\y.flat=true:=by
   intro zv y hy;cases zv<;>simp[pdV] at hy<;>subst hy<;>simp[Pd.val,Pd.flat]
 split at h
 . rename_i q zv hk hi;cases EP:P.info? e with
   | none=>rw[EP] at hi;cases hi
   | some i=>
     rw[EP] at hi;cases hp:pdV zv with
     | none=>rw[hp] at h;cases h
     | some y=>rw[hp] at h;cases h;exact ⟨kt,e,_,i,zv,hu,hk,rfl,EP,hi,hz hp⟩
 . rename_i zv hk hi;cases EP:P.info? e with
   | none=>rw[EP] at hi;cases hi
   | some i=>
     rw[EP] at hi;cases hp:pdV zv with
     | none=>rw[hp] at h;cases h
     | some y=>rw[hp] at h;cases h;exact ⟨kt,e,_,i,zv,hu,hk,rfl,EP,hi,hz hp⟩
 . cases h
theorem QX{kk:KK}{key:Pd}{d:TypeDesc}(hd:match kk with | .int x=>d= .int x | .str=>d= .string)(hf:kk.fit key=true):MapKept.IsKey d key.val:=by
 cases kk with
 | int x=>simp only at hd;subst hd;cases key<;>simp[KK.fit] at hf;exact hf
 | str=>simp only at hd;subst hd;cases key<;>simp[KK.fit] at hf;trivial
theorem U2(hr:Rel c st a w F M){t:TypeId}{x i:D}{ok:Bool}{k:D->Prop}(h:Pr P st.hp t x i ok k){vx vi:Value}(hx:DR F w M (sg st.hp) x vx)(hi:DR F w M (sg st.hp) i vi):
   ∃d v,k d/\DR F w M (sg st.hp) d v/\(Instr.lookup t vx vi ok).run P w= .ok v w:=by
 unfold Pr at h;split at h
 case h_2=>exact h.elim
 rename_i _ _ _ kk z id key hm;obtain ⟨kt,e,d,ii,zv,hu,hk,hd,EP,hz,rfl,hzf⟩:=K4 hm;split at h
 case h_2=>exact h.elim
 rename_i l hg;obtain ⟨⟨hf,NL⟩,hkk⟩:=h;obtain ⟨_,⟨es,clock,hb,Ld⟩,OW⟩:=hr.heap.obj id _ hg;cases hx with
 | mv _ hs=>
   cases hi with
   | p hi=>
     have hvi:vi=key.val:=by cases hi<;>first | rfl | (cases kk<;>simp[KK.fit] at hf)
     subst hvi;have hc:∀b,(Instr.checkKey b 10000 kt key.val).run P w= .ok () w:=λ b=>MapKept.run_checkKey hk (QX hd hf) b 9999;have hzv:(zeroValue e).run P w= .ok z.val w:=by simp[zeroValue,typeInfo,EP,hz]
     rcases Mg hd hf es.toList l 0 Ld NL with ⟨v,j,g1,g2,g3,_⟩ | ⟨g1,g2,_⟩
     . rw[g1] at hkk;have hvf:v.flat=true:=by obtain ⟨p,hp,rfl⟩:=AP.1 g3;exact OW p hp
       cases ok with
       | true=>
         refine ⟨_,_,hkk,.Dg _ #[v.val,.bool true] rfl (λ j c hj=>?_),?_⟩
         . rcases j with _ | _ | j
           . simp at hj;subst hj;exact .p (PR.flat hvf)
           . simp at hj;subst hj;exact .p (.bool true)
           . simp at hj
         . simp[Instr.lookup,run_underlying hu,MapKept.run_getObj_map hb,hc,MapKept.run_findKey hk g2,Result.andThen]
       | false=>exact ⟨_,v.val,hkk,.p (PR.flat hvf),by simp[Instr.lookup,run_underlying hu,MapKept.run_getObj_map hb,hc,MapKept.run_findKey hk g2,Result.andThen]⟩
     . rw[g1] at hkk;cases ok with
       | true=>
         refine ⟨_,_,hkk,.Dg _ #[z.val,.bool false] rfl (λ j c hj=>?_),?_⟩
         . rcases j with _ | _ | j
           . simp at hj;subst hj;exact .p (PR.flat hzf)
           . simp at hj;subst hj;exact .p (.bool false)
           . simp at hj
         . simp[Instr.lookup,run_underlying hu,MapKept.run_getObj_map hb,hc,MapKept.run_findKey hk g2,hzv,Result.andThen]
       | false=>exact ⟨_,z.val,hkk,.p (PR.flat hzf),by simp[Instr.lookup,run_underlying hu,MapKept.run_getObj_map hb,hc,MapKept.run_findKey hk g2,hzv,Result.andThen]⟩
theorem Vq(hr:Rel c st a w F M){o:Oper}{k:D->Prop}(h:vOp P st o.op k):
   ∃d v,k d/\DR F w M (sg st.hp) d v/\(execOp a.eval o).run P w= .ok (.value v) w:=by
 have wrap:∀(s:Sem Value),(∃d v,k d/\DR F w M (sg st.hp) d v/\s.run P w= .ok v w)->execOp a.eval o=(do pure (.value (<-s)):Sem Next)->
     ∃d v,k d/\DR F w M (sg st.hp) d v/\(execOp a.eval o).run P w= .ok (.value v) w:=by
   rintro s ⟨d,v,h1,h2,h3⟩ e;exact ⟨d,v,h1,h2,by rw[e];simp[h3]⟩
 unfold vOp at h;split at h
 . rename_i x ho;exact ⟨_,_,h,Ci hr x,by simp[execOp,ho]⟩
 . rename_i x ho;exact ⟨_,_,h,Ci hr x,by simp[execOp,ho]⟩
 . rename_i x y z ho;obtain ⟨d,v,h1,h2,h3⟩:=YU (P:=P) h (Ci hr x) (Ci hr y) (Ci hr z);exact ⟨d,v,h1,h2,by simp only[execOp,ho];exact h3⟩
 . rename_i op t x y yt ho;exact wrap _ (l7 h (Ci hr x) (Ci hr y) x y) (by simp only[execOp,ho])
 . rename_i op t x ho;exact wrap _ (Adh h (Ci hr x)) (by simp only[execOp,ho])
 . rename_i x ho;have hx:=Ci hr x;have run:∀{ad},a.eval x= .pointer (some ad)->(execOp a.eval o).run P w= .ok (.value (.pointer (some ad))) w:=by
     intro ad e;simp[execOp,ho,e]
   split at h
   . rename_i id off he;rw[he] at hx;generalize hv:a.eval x=v at hx;cases hx with | ptr _ _ hs=>exact ⟨_,_,h,.ptr id off hs,run hv⟩
   . rename_i cs he;rw[he] at hx;generalize hv:a.eval x=v at hx;cases hx with | pe _ b off row e fr hF hh hi hp=>exact ⟨_,_,h,.pe cs b off row e fr hF hh hi hp,run hv⟩
   . rename_i id i q N he;rw[he] at hx;generalize hv:a.eval x=v at hx;cases hx with
     | ea _ _ _ _ sz n v hs hN RX h2=>
       rw[hs] at h;obtain ⟨hv3,Ct⟩:=h2 h.1;subst hv3;exact ⟨_,_,h.2,.ea id i q N sz n _ hs hN RX h2,run hv⟩
   . exact h.elim
 . rename_i s d x ho;exact wrap _ (j0 h (Ci hr x)) (by simp only[execOp,ho])
 . rename_i t parts ho;exact wrap _ (X2 hr h) (by simp only[execOp,ho])
 . rename_i t x ho;exact wrap _ (RQ hr.heap h (Ci hr x)) (by simp only[execOp,ho])
 . rename_i t x lo hi mx ho;exact wrap _ (W0 hr h (Ci hr x)) (by simp only[execOp,ho])
 . rename_i t x f ho;exact wrap _ (Rh h (Ci hr x)) (by simp only[execOp,ho])
 . rename_i t x f ho;exact wrap _ (XK h (Ci hr x)) (by simp only[execOp,ho])
 . rename_i t x i ho;exact wrap _ (QY h (Ci hr x) (Ci hr i)) (by simp only[execOp,ho])
 . rename_i t x i ho;exact wrap _ (Xs h (Ci hr x) (Ci hr i)) (by simp only[execOp,ho])
 . rename_i t i ho;exact wrap _ (T8 h (Ci hr t)) (by simp only[execOp,ho])
 . rename_i t x i ok ho;exact wrap _ (U2 hr h (Ci hr x) (Ci hr i)) (by simp only[execOp,ho])
 . rename_i f first cap ho
   obtain ⟨h0,h⟩:=h;have hf:first=#[]:=Array.eq_empty_of_size_eq_zero h0
   subst hf;refine ⟨_,.func (.func f) #[] (cap.map a.eval),h,.fn f _ _ (by simp) (λ i c hc=>?_),by simp[execOp,ho,Instr.makeFunc]⟩;rw[AQ] at hc;cases hq:cap.toList[i]? with
   | none=>rw[hq] at hc;cases hc
   | some q=>
     rw[hq] at hc;cases hc;have:=Ci hr q;have Yh:cap[i]?=some q:=by simpa using hq
     simpa [Array.getD_eq_getD_getElem?,Yh] using this
 . exact h.elim
end
end Go.Am
namespace Go.Am
open Go
theorem CM{α:Type}(x:α):∀(h:List (Nat×α)) (id j:Nat),get (Cw h id x) j=if j=id then some x else get h j
 | [],id,j=>by simp only[Cw,get];by_cases e:id=j<;>simp[e,eq_comm]
 | (k,y)::r,id,j=>by
   have ih:=CM x r id j;simp only[Cw];by_cases e:k=id
   . subst e;simp only[AM,get];by_cases e2:k=j
     . simp[e2]
     . simp[e2,Bm e2]
   . simp only[e,A9,get,ih];by_cases e2:k=j
     . subst e2;simp[e]
     . simp[e2]
section
variable {P:Program} {c:Ctx} {st:St} {a:Act} {w:World} {F:Nat->Prop} {M:Nat->Mb}
theorem Rel.change(hr:Rel c st a w F M){id:Nat}{o':AO}{w':World}{M':Nat->Mb}{hp':Hp}
   (Cs:∀j,get hp' j=if j=id then some o' else get st.hp j) (hM:∀j,j≠id->M' j=M j) (Hs:CN M M' (sg st.hp) (sg hp'))
   (hos:w'.os=w.os) (Mn:w'.tape=w.tape) (Ow:w'.output=w.output) (Hr:w.heap.size<=w'.heap.size)
   (hold:∀b,b<w.heap.size->(∀o,get st.hp id=some o->¬o.F8 (M id) b)->w'.heap[b]?=w.heap[b]?)
   (Ms:NO F w' M' (sg hp') (M' id) o')
   (Rb:∀b,o'.F8 (M' id) b->(∃o,get st.hp id=some o/\o.F8 (M id) b)∨w.heap.size<=b):
   Rel c {st with hp:=hp'} a w' F M':=by
 have hF:∀b,F b->w'.heap[b]?=w.heap[b]?:=λ b hb=>hold b (hr.keep.Fl b hb) (λ o ho CI=>hr.heap.Jj ⟨id,o,ho,CI⟩ hb);have Auq:∀j o b,j≠id->get st.hp j=some o->o.F8 (M j) b->w'.heap[b]?=w.heap[b]?:=λ j o b hj ho CI=>
   hold _ (hr.heap.lt ⟨j,o,ho,CI⟩) (λ o2 UJ Ach=>hj (hr.heap.inj j o id o2 b ho UJ CI Ach))
 have Dl:∀j o b,j≠id->get st.hp j=some o->o.F8 (M j) b->¬o'.F8 (M' id) b:=λ j o b hj ho CI Nf=>by
   rcases Rb b Nf with ⟨o2,h1,h2⟩ | h1
   . exact hj (hr.heap.inj j o id o2 b ho h1 CI h2)
   . have:=hr.heap.lt ⟨j,o,ho,CI⟩;omega
 constructor
 . intro t d ht;exact (hr.env t d ht).keep hF (λ _ h=>h) Hs
 . exact hr.size
 . exact hr.defers
 . constructor
   . intro j o hj;rw[Cs] at hj;by_cases e:j=id
     . subst e;simp only[AM,Al] at hj;subst hj;exact Ms
     . rw[if_neg e] at hj;rw[hM j e];exact (hr.heap.obj j o hj).keep hF (λ _ h=>h) Hs (λ b CI=>⟨Auq j o b e hj CI,hr.heap.Jj ⟨j,o,hj,CI⟩⟩)
   . intro j o j' o2 b hj Hc CI Eu;rw[Cs] at hj Hc;by_cases e:j=id
     . by_cases e':j'=id
       . rw[e,e']
       . subst e;rw[if_neg e'] at Hc;simp only[AM,Al] at hj;subst hj;rw[hM j' e'] at Eu;exact (Dl j' o2 b e' Hc Eu CI).elim
     . rw[if_neg e] at hj;rw[hM j e] at CI;by_cases e':j'=id
       . subst e';simp only[AM,Al] at Hc;subst Hc;exact (Dl j o b e hj CI Eu).elim
       . rw[if_neg e'] at Hc;rw[hM j' e'] at Eu;exact hr.heap.inj j o j' o2 b hj Hc CI Eu
 . have hk:=hr.keep;refine ⟨hos.trans hk.os,Mn.trans hk.tape,Ow.trans hk.output,Bw hk.size Hr,λ b hb hO=>?_,hk.F0,hk.Fn,λ b hb=>Nat.lt_of_lt_of_le (hk.Fl b hb) Hr,?_,hk.VB.trans Hs,hk.s0b⟩
   . rw[hold b (Nat.lt_of_lt_of_le hb hk.size) (λ o ho CI=>?_)]
     . exact hk.LR b hb hO
     . rcases hk.own _ ⟨id,o,ho,CI⟩ with h1 | h1
       . exact hO h1
       . omega
   . rintro b ⟨j,o,hj,CI⟩;rw[Cs] at hj;by_cases e:j=id
     . subst e;simp only[AM,Al] at hj;subst hj;rcases Rb b CI with ⟨o2,h1,h2⟩ | h1
       . exact hk.own _ ⟨j,o2,h1,h2⟩
       . right;have:=hk.size;omega
     . rw[if_neg e] at hj;rw[hM j e] at CI;exact hk.own _ ⟨j,o,hj,CI⟩
theorem C5{hp hp':Hp}{id:Nat}{o':AO}(Cs:∀j,get hp' j=if j=id then some o' else get hp j)(j:Nat):
   sg hp' j=if j=id then some o'.sg else sg hp j:=by
 unfold sg;rw[Cs];by_cases e:j=id<;>simp[e]
theorem FV{M M':Nat->Mb}{hp hp':Hp}{id:Nat}{o':AO}(Cs:∀j,get hp' j=if j=id then some o' else get hp j)(hM:∀j,j≠id->M' j=M j)
   (hn:get hp id=none):CN M M' (sg hp) (sg hp'):=by
 have hn':sg hp id=none:=by simp[sg,hn]
 refine ⟨λ j hj=>?_,λ j sz n hj=>?_,λ j sz n k hj=>?_⟩
 . have e:j≠id:=λ e=>by rw[e,hn'] at hj;cases hj
   rw[C5 Cs,if_neg e,hM j e];exact ⟨hj,rfl⟩
 . have e:j≠id:=λ e=>by rw[e,hn'] at hj;cases hj
   rw[C5 Cs,if_neg e,hM j e];exact ⟨n,hj,Ai _,λ _=>rfl⟩
 . have e:j≠id:=λ e=>by rw[e,hn'] at hj;cases hj
   rw[C5 Cs,if_neg e,hM j e];exact ⟨n,k,hj,Ai _,Ai _,λ _=>⟨rfl,rfl⟩,λ _=>rfl⟩
theorem Dw{hp hp':Hp}{id:Nat}{o o':AO}(Cs:∀j,get hp' j=if j=id then some o' else get hp j)
   (ho:get hp id=some o) (hs:o'.sg=o.sg):sg hp'=sg hp:=by
 funext j
 rw[C5 Cs];by_cases e:j=id
 . subst e;simp[sg,ho,hs]
 . simp[e]
theorem Rel.freeze(hr:Rel c st a w F M){id sz:Nat}{t:TypeId}{es:List (List Pd)}(ho:get st.hp id=some (.arr t sz es)):
   Rel c {st with hp:=froze st.hp id} a w (λ b=>F b∨((M id).cap≠0/\b=(M id).Dt)) M:=by
 have hf:froze st.hp id=Cw st.hp id (.LG sz es):=by simp[froze,ho]
 have Cs:∀j,get (froze st.hp id) j=if j=id then some (.LG sz es) else get st.hp j:=λ j=>by rw[hf,CM]
 have Hs:sg (froze st.hp id)=sg st.hp:=Dw Cs ho rfl;have G5:CN M M (sg st.hp) (sg (froze st.hp id)):=by rw[Hs];exact CN.refl _ _
 have Iy:∀b,F b->(F b∨((M id).cap≠0/\b=(M id).Dt)):=λ b h=> .inl h;constructor
 . intro q d hq;exact (hr.env q d hq).keep (λ _ _=>rfl) Iy G5
 . exact hr.size
 . exact hr.defers
 . constructor
   . intro j o hj;rw[Cs] at hj;by_cases e:j=id
     . subst e;simp only[AM,Al] at hj;subst hj;obtain ⟨h1,h2,_,h3,h4⟩:=hr.heap.obj j _ ho;refine ⟨h1,h2,h3,λ hc=>?_⟩;obtain ⟨_,row,h6,h7,h8⟩:=h4 hc;exact ⟨.inr ⟨hc,rfl⟩,row,t,h6.choose,h6.choose_spec.1,h7,λ i e q x he hx=>(h8 i e q x he hx).keep (λ _ _=>rfl) Iy⟩
     . rw[if_neg e] at hj;refine (hr.heap.obj j o hj).keep (λ _ _=>rfl) Iy G5 (λ b CI=>⟨rfl,?_⟩);rintro (h | ⟨hc,he⟩)
       . exact hr.heap.Jj ⟨j,o,hj,CI⟩ h
       . exact e (hr.heap.inj j o id _ b hj ho CI ⟨hc,he⟩)
   . intro j o j' o2 b hj Hc CI Eu;rw[Cs] at hj Hc;by_cases e:j=id
     . rw[if_pos e] at hj;cases hj;exact CI.elim
     . by_cases e':j'=id
       . rw[if_pos e'] at Hc;cases Hc;exact Eu.elim
       . rw[if_neg e] at hj;rw[if_neg e'] at Hc;exact hr.heap.inj j o j' o2 b hj Hc CI Eu
 . have hk:=hr.keep;refine ⟨hk.os,hk.tape,hk.output,hk.size,hk.LR,λ b h=> .inl (hk.F0 b h),?_,?_,?_,hk.VB.trans G5,hk.s0b⟩
   . rintro b (h | ⟨hc,rfl⟩)
     . exact hk.Fn b h
     . rcases hk.own _ ⟨id,_,ho,hc,rfl⟩ with h1 | h1
       . exact .inr (.inl h1)
       . exact .inr (.inr h1)
   . rintro b (h | ⟨hc,rfl⟩)
     . exact hk.Fl b h
     . exact hr.heap.lt ⟨id,_,ho,hc,rfl⟩
   . rintro b ⟨j,o,hj,CI⟩;rw[Cs] at hj;by_cases e:j=id
     . rw[if_pos e] at hj;cases hj;exact CI.elim
     . rw[if_neg e] at hj;exact hk.own _ ⟨j,o,hj,CI⟩
theorem UA.pure{F F':Nat->Prop}{w:World}{m:Mb}{t:TypeId}{sz:Nat}{es:List (List Pd)}(h:UA F w m t sz es)(hF:∀b,F b->F' b)(hb:m.cap≠0->F' m.Dt){ad:Option Addr}
   (ha:m.cap=0∨ad=some ⟨m.Dt,0,none⟩):PR F' w (.sl es) (.slice ad es.length m.cap):=by
 obtain ⟨h1,h2,_,h3,h4⟩:=h;by_cases h0:es=[]
 . subst h0;exact .Vz ad m.cap
 . have FU:0<es.length:=List.length_pos_iff.2 h0;have hc:m.cap≠0:=by omega
   obtain ⟨_,row,h6,h7,h8⟩:=h4 hc;obtain rfl:=ha.resolve_left hc;refine .sl es m.Dt 0 m.cap sz row t h6.choose (hb hc) h6.choose_spec.1 h2 h3 (λ i e j c he hj=>?_) (λ i e j c he hj=>by rw[A2];exact (h8 i e j c he hj).keep (λ _ _=>rfl) hF);rw[h7,A2];exact Jd (An.1 he).1 h2 (by have:=h3 i e he;have:=(An.1 hj).1;omega)
theorem Rel.Ar3(hr:Rel c st a w F M){id sz k:Nat}{t e:TypeId}{rows:List (List (List Pd))}(ho:get st.hp id=some (.Dj t e sz k rows none)):
   Rel c {st with hp:=Cw st.hp id (.Fi (IK (.Dj sz rows.length k)))} a w (λ b=>F b∨Dz (M id) b) M:=by
 have Cs:∀j,get (Cw st.hp id (.Fi (IK (.Dj sz rows.length k)))) j=if j=id then some (.Fi (IK (.Dj sz rows.length k))) else get st.hp j:=CM _ _ _
 have Hs:sg (Cw st.hp id (.Fi (IK (.Dj sz rows.length k))))=sg st.hp:=Dw Cs ho rfl;have G5:CN M M (sg st.hp) (sg (Cw st.hp id (.Fi (IK (.Dj sz rows.length k))))):=by rw[Hs];exact CN.refl _ _
 have Iy:∀b,F b->(F b∨Dz (M id) b):=λ b h=> .inl h;constructor
 . intro q d hq;exact (hr.env q d hq).keep (λ _ _=>rfl) Iy G5
 . exact hr.size
 . exact hr.defers
 . constructor
   . intro j o hj;rw[Cs] at hj;by_cases e:j=id
     . rw[if_pos e] at hj;cases hj;trivial
     . rw[if_neg e] at hj;refine (hr.heap.obj j o hj).keep (λ _ _=>rfl) Iy G5 (λ b CI=>⟨rfl,?_⟩);rintro (h | h)
       . exact hr.heap.Jj ⟨j,o,hj,CI⟩ h
       . exact e (hr.heap.inj j o id _ b hj ho CI h)
   . intro j o j' o2 b hj Hc CI Eu;rw[Cs] at hj Hc;by_cases e:j=id
     . rw[if_pos e] at hj;cases hj;exact CI.elim
     . by_cases e':j'=id
       . rw[if_pos e'] at Hc;cases Hc;exact Eu.elim
       . rw[if_neg e] at hj;rw[if_neg e'] at Hc;exact hr.heap.inj j o j' o2 b hj Hc CI Eu
 . have hk:=hr.keep;refine ⟨hk.os,hk.tape,hk.output,hk.size,hk.LR,λ b h=> .inl (hk.F0 b h),?_,?_,?_,hk.VB.trans G5,hk.s0b⟩
   . rintro b (h | h)
     . exact hk.Fn b h
     . rcases hk.own _ ⟨id,_,ho,h⟩ with h1 | h1
       . exact .inr (.inl h1)
       . exact .inr (.inr h1)
   . rintro b (h | h)
     . exact hk.Fl b h
     . exact hr.heap.lt ⟨id,_,ho,h⟩
   . rintro b ⟨j,o,hj,CI⟩;rw[Cs] at hj;by_cases e:j=id
     . rw[if_pos e] at hj;cases hj;exact CI.elim
     . rw[if_neg e] at hj;exact hk.own _ ⟨j,o,hj,CI⟩
theorem O3(hr:HR F w M st.hp){id sz k:Nat}{t e:TypeId}{rows:List (List (List Pd))}{v:Value}(ho:get st.hp id=some (.Dj t e sz k rows none))(h:RI (M id) 1 rows.length 0 rows.length v):
   PR (λ b=>F b∨Dz (M id) b) w (.sl (rows.map λ r=>[.sl r])) v:=by
 have hn:H6 F w (M id) t e sz rows none:=hr.obj id _ ho;obtain ⟨ad,cap,rfl,h1,h2,h3,h4⟩:=h;by_cases h0:rows=[]
 . subst h0;exact .Vz ad cap
 . have FU:0<rows.length:=List.length_pos_iff.2 h0;have hc:(M id).cap≠0:=by have:=hn.le;omega
   obtain ⟨_,row,h6,h7,h8⟩:=hn.outer hc;have Ju:cap≠0:=by omega
   obtain rfl:=h4.resolve_left Ju;rw[show rows.length=(rows.map λ r=>([.sl r]:List Pd)).length by simp];refine .sl _ (M id).Dt (0*1) cap 1 row t (0,0) (.inr (.inl ⟨hc,rfl⟩)) h6 (by simp;omega) (λ i x hx=>?_) (λ i x j y hx hy=>?_) (λ i x j y hx hy=>?_)
   . rw[AQ] at hx;cases Ht:rows[i]? with
     | none=>rw[Ht] at hx;cases hx
     | some r=>rw[Ht] at hx;cases hx;rfl
   . rw[AQ] at hx;cases Ht:rows[i]? with
     | none=>rw[Ht] at hx;cases hx
     | some r=>
       rw[Ht] at hx;cases hx;have hi:=(An.1 Ht).1;have hj:=(An.1 hy).1;have:=hn.le;simp at hj;omega
   . rw[AQ] at hx;cases Ht:rows[i]? with
     | none=>rw[Ht] at hx;cases hx
     | some r=>
       rw[Ht] at hx;cases hx;have hi:=(An.1 Ht).1;have hix:i<(M id).xs.length:=by rw[hn.xl];exact hi
       have hib:(M id).xs[i]?=some ((M id).xs[i]):=Ax hix;obtain ⟨a2,g1,g2⟩:=h8 i r _ Ht hib (by simp);rcases j with _ | j
       . simp at hy;subst hy;simp only[Nat.zero_mul,Nat.mul_one,A2,Bj];rw[g1];exact (hn.rows i r _ Ht hib (by simp)).pure (λ b h=> .inl h) (λ Vb=> .inr (.inr ⟨i,_,hib,Vb,rfl⟩)) g2
       . simp at hy
theorem JJ(hr:HR F w M st.hp){id off len sz n:Nat}{es:List (List Pd)}{v:Value}(hg:(∃t,get st.hp id=some (.arr t sz es))∨get st.hp id=some (.LG sz es))
   (hn:n=es.length) (h:RI (M id) sz n off len v) {F':Nat->Prop} (hF:∀b,F b->F' b) (hb:(M id).cap≠0->F' (M id).Dt):PR F' w (.sl ((es.drop off).take len)) v:=by
 subst hn;obtain ⟨ad,cap,rfl,h1,h2,h3,h4⟩:=h;obtain ⟨h5,h6,h7,h8⟩:=hr.row hg;have hlen:((es.drop off).take len).length=len:=by simp;omega
 by_cases h0:len=0
 . subst h0;have:(es.drop off).take 0=[]:=by simp
   rw[this];exact .Vz _ _
 . have h9:=h4.resolve_left (by omega);subst h9;obtain ⟨row,t,fr,JI,r7,Ve⟩:=h8 (by omega);have Cs:∀(i:Nat) e,((es.drop off).take len)[i]?=some e->es[off+i]?=some e:=λ i e he=>by
     rw[AH] at he;split at he
     . rwa[AV] at he
     . cases he
   have key:=PR.sl (F:=F') (w:=w) ((es.drop off).take len) (M id).Dt (off*sz) cap sz row t fr (hb (by omega)) JI (by omega) (λ i e he=>h7 _ e (Cs i e he)) (λ i e j x he hx=>by
     have h13:=h7 _ e (Cs i e he);have h14:=(An.1 hx).1;have h15:=(An.1 (Cs i e he)).1;have:=Jd (j:=j) (sz:=sz) h15 h6 (by omega);rw[Bf] at this;omega) (λ i e j x he hx=>by
     have:=Ve _ e j x (Cs i e he) hx;rw[Bf] at this;exact this.keep (λ _ _=>rfl) hF)
   rw[hlen] at key;exact key
theorem K1(hr:Rel c st a w F M){d:D}{v:Value}(hd:DR F w M (sg st.hp) d v){k:Pd->Hp->Prop}(h:Kl st.hp d k):
   ∃x h' F',k x h'/\Rel c {st with hp:=h'} a w F' M/\(∀b,F b->F' b)/\sg h'=sg st.hp/\PR F' w x v:=by
 unfold Kl at h;cases d with
 | p x=>cases hd with | p hx=>exact ⟨x,st.hp,F,h,hr,λ _ h=>h,rfl,hx⟩
 | cl es=>cases hd with | cl _ ad hx _=>exact ⟨_,st.hp,F,h,hr,λ _ h=>h,rfl,hx⟩
 | cz es=>cases hd with | cz _ ad hx=>exact ⟨_,st.hp,F,h,hr,λ _ h=>h,rfl,hx⟩
 | ref id off len N=>
   simp only at h;cases hd with
   | ref _ _ _ _ sz n v hs hN hv h2=>
     cases ho:get st.hp id with
     | none=>rw[ho] at h;exact h.elim
     | some o=>
       rw[ho] at h;cases o with
       | box cs ty=>exact h.elim
       | iter _ _=>exact h.elim
       | Df _ _=>exact h.elim
       | Fi _=>exact h.elim
       | mp _=>exact h.elim
       | Dj _ _ _ _ _ _=>exact h.elim
       | arr t RC es=>
         obtain ⟨rfl,hk⟩:=h;have Hs:=CW ho;rw[Hs] at hs;simp only[AO.sg,Al,Sg.arr.injEq] at hs;obtain ⟨rfl,rfl⟩:=hs;have Cs:∀j,get (froze st.hp id) j=if j=id then some (.LG RC es) else get st.hp j:=λ j=>by simp[froze,ho,CM]
         exact ⟨_,_,_,hk,hr.freeze ho,λ b h=> .inl h,Dw Cs ho rfl,JJ hr.heap (.inl ⟨t,ho⟩) rfl (h2 rfl) (λ b h=> .inl h) (λ hc=> .inr ⟨hc,rfl⟩)⟩
       | LG RC es=>
         obtain ⟨rfl,hk⟩:=h;have Hs:=CW ho;rw[Hs] at hs;simp only[AO.sg,Al,Sg.arr.injEq] at hs;obtain ⟨rfl,rfl⟩:=hs;have hob:=hr.heap.obj id _ ho;exact ⟨_,st.hp,F,hk,hr,λ b h=>h,rfl,JJ hr.heap (.inr ho) rfl (h2 rfl) (λ b h=>h) (λ hc=>(hob.2.2.2 hc).1)⟩
 | Di id n=>
   simp only at h;split at h
   case h_2=>exact h.elim
   rename_i t e sz kk rows ho;obtain ⟨rfl,hk⟩:=h;cases hd with
   | Di _ _ OV m k2 _ hs hN hv h2=>
     have Mp:=CW ho;rw[hs] at Mp;simp only[AO.sg,Al,Sg.Dj.injEq] at Mp;obtain ⟨rfl,rfl,rfl⟩:=Mp;exact ⟨_,_,_,hk,hr.Ar3 ho,λ b h=> .inl h,Dw (CM _ _ _) ho rfl,O3 hr.heap ho (h2 rfl)⟩
 | _=>exact h.elim
theorem L8:∀(ds:List D) {st:St} {F:Nat->Prop} (vs:List Value),Rel c st a w F M->IW F w M (sg st.hp) ds vs->∀{k:List Pd->Hp->Prop},HH st.hp ds k->
   ∃xs h' F',k xs h'/\Rel c {st with hp:=h'} a w F' M/\(∀b,F b->F' b)/\sg h'=sg st.hp/\xs.length=vs.length/\∀(i:Nat) x,xs[i]?=some x->PR F' w x (vs.getD i undef)
 | [],st,F,vs,hr,hd,k,h=>⟨[],st.hp,F,h,hr,λ _ h=>h,rfl,by have:=hd.1;simpa using this.symm,λ i x hx=>by simp at hx⟩
 | d::ds,st,F,vs,hr,hd,k,h=>by
   cases vs with
   | nil=>have:=hd.1;simp at this
   | cons v vs=>
     simp only[HH] at h;have hd0:DR F w M (sg st.hp) d v:=by simpa [List.getD] using hd.2 0 d rfl
     obtain ⟨x,h1,F1,hk,GG,hF1,LB,hx⟩:=K1 hr hd0 h;have V7:IW F1 w M (sg h1) ds vs:=by
       refine ⟨by have:=hd.1;simpa using this,λ i e he=>?_⟩;have:=hd.2 (i+1) e (by simpa using he);rw[LB];have h3:DR F w M (sg st.hp) e (vs.getD i undef):=by simpa [List.getD] using this
       exact h3.keep (λ _ _=>rfl) hF1 (CN.refl _ _)
     obtain ⟨xs,h2,F2,JF,Ht,hF2,Mp,Sp,HZ⟩:=L8 ds (st:={st with hp:=h1}) vs GG V7 hk;refine ⟨x::xs,h2,F2,JF,Ht,λ b hb=>hF2 b (hF1 b hb),Mp.trans LB,by simp[Sp],λ i y hy=>?_⟩;cases i with
     | zero=>simp only[List.getElem?_cons_zero,Option.some.injEq] at hy;subst hy;simpa [List.getD] using hx.keep (λ _ _=>rfl) hF2
     | succ i=>simp only[List.getElem?_cons_succ] at hy;simpa [List.getD] using HZ i y hy
end
end Go.Am
namespace Go.Am
open Go
section
variable {P:Program} {c:Ctx} {st:St} {a:Act} {w:World} {F:Nat->Prop} {M:Nat->Mb}
theorem alloc_old(w:World)(o:Obj)(b:Nat)(h:b<w.heap.size):(w.alloc o).heap[b]?=w.heap[b]?:=by
 show (w.heap.push o)[b]?=_
 rw[Array.getElem?_push,if_neg (by omega)]
theorem DR.JN{s:Nat->Option Sg}{d:D}{v:Value}(h:DR F w M s d v)(h1:d.one=true):v.oneCell'=true:=by
 cases h with
 | p h=>exact h.JN
 | agg _ _ _ _=>simp[D.one] at h1
 | Dg _ _ _ _=>simp[D.one] at h1
 | cl _ _ _ _=>rfl
 | cz _ _ _=>rfl
 | ref _ _ _ _ _ _ _ _ _ hv _=>obtain ⟨_,_,_,rfl⟩:=hv;rfl
 | ptr _ _ _=>rfl
 | np=>rfl
 | mv _ _=>rfl
 | Di _ _ _ _ _ _ _ _ hv _=>obtain ⟨_,_,rfl,_⟩:=hv;rfl
 | LL _ _ _ _ _ _ _ _ _ _ _=>rfl
 | nr _ _ _ _ _ _ _ _ _ _ hv _=>obtain ⟨_,_,rfl⟩:=hv;rfl
 | pe _ _ _ _ _ _ _ _ _ _=>rfl
 | ea _ _ _ _ _ _ _ _ _ hv _=>obtain ⟨_,rfl⟩:=hv;rfl
 | fn _ _ _ _ _=>rfl
 | Qs _ h=>exact h
 | bad _=>simp[D.one] at h1
theorem IW.keep{F':Nat->Prop}{w':World}{M':Nat->Mb}{s s':Nat->Option Sg}{cs:List D}{vs:List Value}(h:IW F w M s cs vs)
   (hw:∀b,F b->w'.heap[b]?=w.heap[b]?) (hF:∀b,F b->F' b) (hs:CN M M' s s'):IW F' w' M' s' cs vs:=
 ⟨h.1,λ i c hc=>(h.2 i c hc).keep hw hF hs⟩
def Fh(M:Nat->Mb)(q:Nat)(m:Mb):Nat->Mb:=λ j=>if j=q then m else M j
theorem JQ(h:Hp)(q:Nat)(o:AO)(j:Nat):get ((q,o)::h) j=if j=q then some o else get h j:=by
 rw[Cp];by_cases e:j=q
 . simp[e]
 . rw[if_neg e,if_neg (Bm e)]
theorem Rel.Ajs(hr:Rel c st a w F M){q:Nat}{cs:List D}{vs:Array Value}(t ty:TypeId)(hty:O5 ty t=t)(hn:get st.hp q=none)(hd:IW F w M (sg st.hp) cs vs.toList)(h1:cs.all D.one=true)(hx:Exa ty cs vs):
   Rel c {st with hp:=(q,.box cs ty)::st.hp} a (w.alloc (.cells vs t)) F (Fh M q ⟨w.heap.size,0,[]⟩)/\
   DR F (w.alloc (.cells vs t)) (Fh M q ⟨w.heap.size,0,[]⟩) (sg ((q,.box cs ty)::st.hp)) (.ptr q 0) (.pointer (some ⟨w.heap.size,0,none⟩)):=by
 have Cs:=JQ st.hp q (.box cs ty);have hM:∀j,j≠q->Fh M q ⟨w.heap.size,0,[]⟩ j=M j:=λ j hj=>by simp[Fh,hj]
 have IB:Fh M q ⟨w.heap.size,0,[]⟩ q=⟨w.heap.size,0,[]⟩:=by simp[Fh]
 have G5:=FV Cs hM hn;have hold:∀b,b<w.heap.size->(w.alloc (.cells vs t)).heap[b]?=w.heap[b]?:=λ b hb=>alloc_old w _ b hb;refine ⟨hr.change Cs hM G5 rfl rfl rfl (by simp) (λ b hb _=>hold b hb) ?_ (λ b hb=> .inr (by have:b=_:=hb;rw[this,IB];exact Ai _)),?_⟩
 . rw[IB];refine ⟨λ hF=>Nat.lt_irrefl _ (hr.keep.Fl _ hF),vs,t,by rw[hty];exact heap_alloc_new w _,by have:=hd.1;simpa using this,λ j d hj=>?_,hx⟩;have h2:=hd.2 j d hj;have h3:vs.toList.getD j undef=vs.getD j undef:=by simp[List.getD,As]
   rw[h3] at h2;exact ⟨h2.keep (λ b hb=>hold b (hr.keep.Fl b hb)) (λ _ h=>h) G5,h2.JN (AB.1 h1 d (AU hj))⟩
 . have:=DR.ptr (F:=F) (w:=w.alloc (.cells vs t)) (M:=Fh M q ⟨w.heap.size,0,[]⟩) (s:=sg ((q,.box cs ty)::st.hp)) q 0 (by rw[C5 Cs];simp[AO.sg]);rwa[IB] at this
theorem Jc{t:TypeId}{i:TypeInfo}{z:Value}(hi:P.info? t=some i)(hz:i.zero=some z)(w:World):(zeroValue t).run P w= .ok z w:=by
 simp[zeroValue,typeInfo,hi,hz]
theorem KU{s:Nat->Option Sg}{d:D}{v:Value}(h:DR F w M s d v){cs:List D}(hs:d.stored=some cs):cs=d.cells/\cs.all D.one=true/\IW F w M s cs v.cells.toList:=by
 unfold D.stored at hs;split at hs
 . rename_i h1;cases hs;exact ⟨rfl,h1,h.cells (.inl h1)⟩
 . cases hs
theorem Rel.Aq0(hr:Rel c st a w F M){q cap sz:Nat}{es:List (List Pd)}{vs:Array Value}{e:TypeId}{w':World}(hn:get st.hp q=none)
   (hw:Qc w' w.heap.size e vs) (hws:w'.heap.size=w.heap.size+1) (hold:∀b,b<w.heap.size->w'.heap[b]?=w.heap[b]?) (hos:w'.os=w.os) (Mn:w'.tape=w.tape) (Ow:w'.output=w.output)
   (Em:0<sz) (hc:es.length<=cap) (hm:cap<=maxLen) (hl:∀(i:Nat) x,es[i]?=some x->x.length=sz) (hv:vs.size=cap*sz)
   (hp:∀(i:Nat) x (j:Nat) y,es[i]?=some x->x[j]?=some y->PR F w y (vs.getD (i*sz+j) undef)):
   Rel c {st with hp:=(q,.arr e sz es)::st.hp} a w' F (Fh M q ⟨w.heap.size,cap,[]⟩)/\
   DR F w' (Fh M q ⟨w.heap.size,cap,[]⟩) (sg ((q,.arr e sz es)::st.hp)) (.ref q 0 es.length es.length) (.slice (some ⟨w.heap.size,0,none⟩) es.length cap):=by
 have Cs:=JQ st.hp q (.arr e sz es);have hM:∀j,j≠q->Fh M q ⟨w.heap.size,cap,[]⟩ j=M j:=λ j hj=>by simp[Fh,hj]
 have IB:Fh M q ⟨w.heap.size,cap,[]⟩ q=⟨w.heap.size,cap,[]⟩:=by simp[Fh]
 have G5:=FV Cs hM hn;have hs:sg ((q,.arr e sz es)::st.hp) q=some (.arr sz es.length):=by rw[C5 Cs];simp[AO.sg]
 refine ⟨hr.change Cs hM G5 hos Mn Ow (by rw[hws];exact Nat.le_succ _) (λ b hb _=>hold b hb) ?_ (λ b hb=> .inr (by have:b=_:=hb.2;rw[this,IB];exact Ai _)),?_⟩
 . rw[IB];refine ⟨Em,hc,hm,hl,λ _=>⟨λ hF=>Nat.lt_irrefl _ (hr.keep.Fl _ hF),vs,hw,hv,λ i x j y hx hy=>?_⟩⟩;exact (hp i x j y hx hy).keep (λ b hb=>hold b (hr.keep.Fl b hb)) (λ _ h=>h)
 . refine .ref q 0 es.length es.length sz es.length _ hs (Ai _) ⟨_,_,_,rfl⟩ (λ _=>⟨_,cap,rfl,by omega,hc,by rw[IB];exact A2 _,.inr (by rw[IB];simp)⟩)
theorem Rel.Xe(hr:Rel c st a w F M){q cap sz:Nat}{es:List (List Pd)}{vs:Array Value}{e:TypeId}{w':World}(hn:get st.hp q=none)
   (hw:w'.heap=(w.alloc (.cells vs e)).heap) (hos:w'.os=w.os) (Mn:w'.tape=w.tape) (Ow:w'.output=w.output)
   (Em:0<sz) (hc:es.length<=cap) (hm:cap<=maxLen) (hl:∀(i:Nat) x,es[i]?=some x->x.length=sz) (hv:vs.size=cap*sz)
   (hp:∀(i:Nat) x (j:Nat) y,es[i]?=some x->x[j]?=some y->PR F w y (vs.getD (i*sz+j) undef)):
   Rel c {st with hp:=(q,.arr e sz es)::st.hp} a w' F (Fh M q ⟨w.heap.size,cap,[]⟩)/\
   DR F w' (Fh M q ⟨w.heap.size,cap,[]⟩) (sg ((q,.arr e sz es)::st.hp)) (.ref q 0 es.length es.length) (.slice (some ⟨w.heap.size,0,none⟩) es.length cap):=
 hr.Aq0 hn (.of0 (by rw[hw];exact heap_alloc_new w _)) (by rw[hw];simp) (λ b hb=>by rw[hw];exact alloc_old w _ b hb) hos Mn Ow Em hc hm hl hv hp
theorem IV{α:Type}(sz:Nat):∀(n:Nat) (l:List α),(chunk sz n l).length=n
 | 0,_=>rfl
 | n+1,l=>by simp[chunk,IV sz n]
theorem Nr{α:Type}(sz:Nat):∀(n:Nat) (l:List α) (i:Nat),(chunk sz n l)[i]?=if i<n then some ((l.drop (i*sz)).take sz) else none
 | 0,_,i=>by simp[chunk]
 | n+1,l,0=>by simp[chunk]
 | n+1,l,i+1=>by
   simp only[chunk,List.getElem?_cons_succ,Nr sz n,List.drop_drop];by_cases h:i<n
   . rw[if_pos h,if_pos (by omega)]
     congr 3
     rw[Bf];omega
   . rw[if_neg h,if_neg (by omega)]
theorem Akc(ty t:TypeId)(cs:List D):O5 (Ks ty cs) (O5 ty t)=O5 ty t:=by
 cases ty with
 | zero=>simp[Ks,O5]
 | succ n=>
   simp only[Ks,O5];split<;>simp_all
theorem Ael(ty:TypeId)(cs:List D)(row:Array Value):Exa (Ks ty cs) cs row:=by
 intro h h1;cases ty with
 | zero=>exact (h rfl).elim
 | succ n=>simp[Ks,h1] at h
theorem Rel.YF(hr:Rel c st a w F M){id off:Nat}{bs cs:List D}{ty:TypeId}{vs:List Value}(ho:get st.hp id=some (.box bs ty))(hd:IW F w M (sg st.hp) cs vs)(h1:cs.all D.one=true)
   (hl:off+cs.length<=bs.length):
   ∃w',(storeCells ⟨(M id).Dt,off,none⟩ vs).run P w= .ok () w'/\Rel c {st with hp:=Cw st.hp id (.box (bs.take off++cs++bs.drop (off+cs.length)) (Ks ty (bs.take off++cs++bs.drop (off+cs.length))))} a w' F M:=by
 obtain ⟨LC,row,t,CS,Hr,CP⟩:=hr.heap.obj id _ ho;have Q0:vs.length=cs.length:=hd.1;have NG:∀v∈vs,v.oneCell'=true:=λ v hv=>by
   obtain ⟨i,hi⟩:=Bc.1 hv;have Ct:=(An.1 hi).1;have hc:cs[i]?=some (cs[i]'(by omega)):=Ax (by omega);have:=(hd.2 i _ hc).JN (AB.1 h1 _ (AU hc));rwa[Ay,hi] at this
 have I5:=run_storeCells_at P (M id).Dt off (O5 ty t) vs 0 row w CS (by omega) NG;simp only[Bj] at I5;refine ⟨_,I5,?_⟩;have Cs:∀j,get (Cw st.hp id (.box (bs.take off++cs++bs.drop (off+cs.length)) (Ks ty (bs.take off++cs++bs.drop (off+cs.length))))) j=if j=id then some (.box (bs.take off++cs++bs.drop (off+cs.length)) (Ks ty (bs.take off++cs++bs.drop (off+cs.length)))) else get st.hp j:=CM _ _ _
 have Hs:=Dw Cs ho rfl;refine hr.change (M':=M) Cs (λ _ _=>rfl) (by rw[Hs];exact CN.refl _ _) rfl rfl rfl (by simp) (λ b hb Dl=>setRow_other w _ b _ (Dl _ ho)) ?_ (λ b hb=> .inl ⟨_,ho,hb⟩);have HJ:∀{d v},DR F w M (sg st.hp) d v->DR F (w.setRow (M id).Dt (row.toList.take off++vs++row.toList.drop (off+vs.length)).toArray) M (sg (Cw st.hp id (.box (bs.take off++cs++bs.drop (off+cs.length)) (Ks ty (bs.take off++cs++bs.drop (off+cs.length)))))) d v:=by
   intro d v h;rw[Hs];exact h.keep (λ b hb=>setRow_other w _ b _ (λ e=>LC (e ▸ hb))) (λ _ h=>h) (CN.refl _ _)
 refine ⟨LC,_,O5 ty t,by rw[Akc];exact setRow_heap w _ _ _ (O5 ty t) (0,0) CS,?_,λ j d hj=>?_,Ael _ _ _⟩
 . simp[Q0,Hr]
 . have hrd:IW F w M (sg st.hp) bs row.toList:=⟨by simpa using Hr,λ i e he=>by have:=(CP.1 i e he).1;simpa [List.getD,Array.getD_eq_getD_getElem?] using this⟩;have DK:=((hrd.take off).append hd).append (hrd.drop (off+cs.length));have hdj:=DK.2 j d hj;have e1:((row.toList.take off++vs++row.toList.drop (off+vs.length)).toArray).getD j undef=(row.toList.take off++vs++row.toList.drop (off+cs.length)).getD j undef:=by
     rw[Q0];simp[List.getD,As]
   rw[e1];refine ⟨HJ hdj,?_⟩;have Asq:∀v∈row.toList,v.oneCell'=true:=λ v hv=>by
     obtain ⟨i,hi⟩:=Bc.1 hv;have Ct:=(An.1 hi).1;simp only[Array.length_toList] at Ct;have:=(CP.1 i _ (Ax (by omega))).2;have e2:row[i]?=some v:=by simpa using hi
     rwa[As,e2] at this
   have Ct:j<(row.toList.take off++vs++row.toList.drop (off+cs.length)).length:=by rw[DK.1];exact (An.1 hj).1
   rw[Ay,Ax Ct];have ET:(row.toList.take off++vs++row.toList.drop (off+cs.length))[j]∈row.toList.take off++vs++row.toList.drop (off+cs.length):=AS Ct;rw[Av,Av] at ET;simp only[AY];rcases ET with (ET | ET) | ET
   . exact Asq _ (BN ET)
   . exact NG _ ET
   . exact Asq _ (List.mem_of_mem_drop ET)
theorem Rel.Aiv(hr:Rel c st a w F M){id i q sz:Nat}{e:TypeId}{es:List (List Pd)}{xs:List Pd}{vs:List Value}(ho:get st.hp id=some (.arr e sz es))(hi:i<es.length)
   (hl:xs.length=vs.length) (hx:∀(j:Nat) x,xs[j]?=some x->PR F w x (vs.getD j undef)) (hq:q+xs.length<=sz):
   ∃w',(storeCells ⟨(M id).Dt,i*sz+q,none⟩ vs).run P w= .ok () w'/\
     Rel c {st with hp:=Cw st.hp id (.arr e sz (es.set i ((es.getD i []).take q++xs++(es.getD i []).drop (q+xs.length))))} a w' F M:=by
 obtain ⟨h1,h2,He,h3,h4⟩:=hr.heap.obj id _ ho;have Ju:(M id).cap≠0:=by omega
 obtain ⟨LC,row,CS,Hr,CP⟩:=h4 Ju;have hej:es[i]?=some (es.getD i []):=by simp[List.getD,hi]
 have hlen:=h3 i _ hej;have NG:∀v∈vs,v.oneCell'=true:=λ v hv=>by
   obtain ⟨j,hj⟩:=Bc.1 hv;have Ct:=(An.1 hj).1;have:=(hx j _ (Ax (by omega))).JN;rwa[Ay,hj] at this
 have Auy:i*sz+sz<=row.size:=by
   have h5:(i+1)*sz<=(M id).cap*sz:=Bu _ (by omega);rw[Bf] at h5;omega
 have I5:=Fo P (M id).Dt (i*sz+q) e vs 0 row w CS (by omega) NG;simp only[Bj] at I5;refine ⟨_,I5,?_⟩;have Cs:∀j,get (Cw st.hp id (.arr e sz (es.set i ((es.getD i []).take q++xs++(es.getD i []).drop (q+xs.length))))) j=if j=id then some (.arr e sz (es.set i ((es.getD i []).take q++xs++(es.getD i []).drop (q+xs.length)))) else get st.hp j:=CM _ _ _
 have Hs:=Dw Cs ho (by simp[AO.sg]);refine hr.change (M':=M) Cs (λ _ _=>rfl) (by rw[Hs];exact CN.refl _ _) rfl rfl rfl (by simp) (λ b hb Dl=>setRow_other w _ b _ (λ e=>Dl _ ho ⟨Ju,e⟩)) ?_ (λ b hb=> .inl ⟨_,ho,hb⟩);have Lb:((es.getD i []).take q++xs++(es.getD i []).drop (q+xs.length)).length=sz:=by
   rw[Au,Au,Bi,List.length_drop];omega
 refine ⟨h1,by simpa using h2,He,λ k x hk=>?_,λ _=>⟨LC,_,CS.set (by simp;omega),by simp;omega,λ k x j y hk hy=>?_⟩⟩
 . rw[BR] at hk;by_cases e1:i=k
   . rw[if_pos e1,if_pos (by omega)] at hk;simp only[Al] at hk;rw[<-hk];exact Lb
   . rw[if_neg e1] at hk;exact h3 k x hk
 . have HJ:∀{x v},PR F w x v->PR F (w.setRow (M id).Dt (row.toList.take (i*sz+q)++vs++row.toList.drop (i*sz+q+vs.length)).toArray) x v:=
     λ h=>h.keep (λ b hb=>setRow_other w _ b _ (λ e=>LC (e ▸ hb))) (λ _ h=>h)
   have Ip:∀p,((row.toList.take (i*sz+q)++vs++row.toList.drop (i*sz+q+vs.length)).toArray).getD p undef=
       if p<i*sz+q then row.getD p undef else if p<i*sz+q+vs.length then vs.getD (p - (i*sz+q)) undef else row.getD p undef:=by
     intro p;have hA:(row.toList.take (i*sz+q)).length=i*sz+q:=by simp;omega
     rw[As,As,Ay];simp only[BU];by_cases e1:p<i*sz+q
     . rw[if_pos e1,A0,AW (by omega),AH,if_pos e1];simp
     . rw[if_neg e1];by_cases e2:p<i*sz+q+vs.length
       . rw[if_pos e2,A0,Bg (by omega),hA,AW (by omega)]
       . rw[if_neg e2,Bg (by simp;omega),AV];simp only[Au,hA];rw[show i*sz+q+vs.length+(p - (i*sz+q+vs.length))=p from by omega];simp
   rw[Ip];rw[BR] at hk;by_cases e1:i=k
   . subst e1;rw[if_pos rfl,if_pos hi] at hk;simp only[Al] at hk;subst hk;rw[A0,AN] at hy;have hA:((es.getD i []).take q).length=q:=by rw[Bi];omega
     rw[hA] at hy;split at hy
     . rename_i Ct;rw[if_pos (by omega)];rw[AH,if_pos Ct] at hy;exact HJ (CP i _ j y hej hy)
     . rename_i hge;rw[if_neg (by omega)];rw[AN] at hy;split at hy
       . rename_i Ct;rw[if_pos (by omega)];have:=hx _ y hy;rw[show i*sz+j - (i*sz+q)=j - q from by omega];exact HJ this
       . rename_i hge2;rw[if_neg (by omega)];rw[AV] at hy;have:=CP i _ _ y hej hy;rw[show i*sz+(q+xs.length+(j - q - xs.length))=i*sz+j from by omega] at this;exact HJ this
   . rw[if_neg e1] at hk;have Zm:=h3 k x hk;have hjl:=(An.1 hy).1;have:=HJ (CP k x j y hk hy);rcases Nat.lt_or_ge k i with hki | hki
     . have h5:(k+1)*sz<=i*sz:=Bu _ (by omega);rw[Bf] at h5;rw[if_pos (by omega)];exact this
     . have h5:(i+1)*sz<=k*sz:=Bu _ (by omega);rw[Bf] at h5;rw[if_neg (by omega),if_neg (by omega)];exact this
end
end Go.Am
namespace Go.Am
open Go
section
variable {P:Program} {c:Ctx} {st:St} {a:Act} {w:World} {F:Nat->Prop} {M:Nat->Mb}
theorem Rel.Ajy(hr:Rel c st a w F M){hp':Hp}{M':Nat->Mb}(Hs:CN M M' (sg st.hp) (sg hp'))
   (Akv:∀j o,get hp' j=some o->(get st.hp j=some o/\M' j=M j)∨NO F w M' (sg hp') (M' j) o)
   (CI:∀j o b,get hp' j=some o->o.F8 (M' j) b->EF M st.hp b)
   (Q6:∀j o j' o' b,get hp' j=some o->get hp' j'=some o'->o.F8 (M' j) b->o'.F8 (M' j') b->j=j'):Rel c {st with hp:=hp'} a w F M':=by
 constructor
 . intro t d ht;exact (hr.env t d ht).keep (λ _ _=>rfl) (λ _ h=>h) Hs
 . exact hr.size
 . exact hr.defers
 . refine ⟨λ j o hj=>?_,λ j o j' o' b h1 h2 h3 h4=>Q6 j o j' o' b h1 h2 h3 h4⟩;rcases Akv j o hj with ⟨h1,h2⟩ | h1
   . rw[h2];exact (hr.heap.obj j o h1).keep (λ _ _=>rfl) (λ _ h=>h) Hs (λ b hb=>⟨rfl,hr.heap.Jj ⟨j,o,h1,hb⟩⟩)
   . exact h1
 . have hk:=hr.keep;refine ⟨hk.os,hk.tape,hk.output,hk.size,hk.LR,hk.F0,hk.Fn,hk.Fl,?_,hk.VB.trans Hs,hk.s0b⟩;rintro b ⟨j,o,h1,h2⟩;exact hk.own b (CI j o b h1 h2)
theorem Eo{l:List (Nat×Nat)}{i j:Nat}{x y:Nat×Nat}(h:(l.set i x)[j]?=some y):(i=j/\y=x)∨(i≠j/\l[j]?=some y):=by
 rw[BR] at h;split at h
 . rename_i e;split at h
   . simp only[Al] at h;exact .inl ⟨e,h.symm⟩
   . cases h
 . rename_i e;exact .inr ⟨e,h⟩
theorem Rel.Bar(hr:Rel c st a w F M){id i q:Nat}{t e:TypeId}{sz k:Nat}{rows:List (List (List Pd))}{r:List (List Pd)}(hg:get st.hp id=some (.Dj t e sz k rows none))(hi:rows[i]?=some r)
   (hq:get st.hp q=none):∃bc,(M id).xs[i]?=some bc/\
     CN M (λ j=>if j=q then ⟨bc.1,bc.2,[]⟩ else if j=id then {(M id) with xs:=(M id).xs.set i (0,0)} else M j) (sg st.hp) (sg ((q,AO.arr e sz r)::Cw st.hp id (.Dj t e sz (k+1) rows (some i))))/\
     Rel c {st with hp:=(q,.arr e sz r)::Cw st.hp id (.Dj t e sz (k+1) rows (some i))} a w F (λ j=>if j=q then ⟨bc.1,bc.2,[]⟩ else if j=id then {(M id) with xs:=(M id).xs.set i (0,0)} else M j):=by
 have hn:H6 F w (M id) t e sz rows none:=hr.heap.obj id _ hg;have Ct:i<rows.length:=(An.1 hi).1;have Axw:i<(M id).xs.length:=by rw[hn.xl];exact Ct
 obtain ⟨bc,r6⟩:∃bc,(M id).xs[i]?=some bc:=⟨_,Ax Axw⟩;have Zp:q≠id:=λ e=>by rw[e,hg] at hq;cases hq
 refine ⟨bc,r6,?_⟩;generalize hM':(λ j=>if j=q then (⟨bc.1,bc.2,[]⟩:Mb) else if j=id then {(M id) with xs:=(M id).xs.set i (0,0)} else M j)=M';have IB:M' q=⟨bc.1,bc.2,[]⟩:=by rw[<-hM'];simp
 have J6:M' id={(M id) with xs:=(M id).xs.set i (0,0)}:=by rw[<-hM'];simp[Bm Zp]
 have N1:∀j,j≠q->j≠id->M' j=M j:=λ j h1 h2=>by rw[<-hM'];simp[h1,h2]
 have Cs:∀j,get ((q,AO.arr e sz r)::Cw st.hp id (.Dj t e sz (k+1) rows (some i))) j=if j=q then some (.arr e sz r) else if j=id then some (.Dj t e sz (k+1) rows (some i)) else get st.hp j:=by
   intro j;rw[Cp,CM];by_cases h:q=j
   . subst h;simp
   . rw[if_neg h,if_neg (Bm h)]
 have Q1:sg st.hp id=some (.Dj sz rows.length k):=by simp[sg,hg,AO.sg]
 have G5:CN M M' (sg st.hp) (sg ((q,AO.arr e sz r)::Cw st.hp id (.Dj t e sz (k+1) rows (some i)))):=by
   have Dl:∀j s,sg st.hp j=some s->j≠q:=λ j s hs e=>by rw[e] at hs;simp[sg,hq] at hs
   refine ⟨λ j hj=>?_,λ j s2 n2 hj=>?_,λ j s2 n2 k2 hj=>?_⟩
   . have h1:=Dl j _ hj;have h2:j≠id:=λ e=>by rw[e,Q1] at hj;cases hj
     refine ⟨?_,by rw[N1 j h1 h2]⟩;unfold sg at hj ⊢;rw[Cs,if_neg h1,if_neg h2];exact hj
   . have h1:=Dl j _ hj;have h2:j≠id:=λ e=>by rw[e,Q1] at hj;cases hj
     refine ⟨n2,?_,Ai _,λ _=>N1 j h1 h2⟩;unfold sg at hj ⊢;rw[Cs,if_neg h1,if_neg h2];exact hj
   . have h1:=Dl j _ hj;by_cases h2:j=id
     . subst h2;rw[Q1] at hj;simp only[Al,Sg.Dj.injEq] at hj;obtain ⟨rfl,rfl,rfl⟩:=hj;refine ⟨_,k+1,?_,Ai _,Nat.le_succ _,λ _=>by rw[J6];exact ⟨rfl,rfl⟩,λ h=>by omega⟩;unfold sg;rw[Cs,if_neg h1,if_pos rfl];rfl
     . refine ⟨n2,k2,?_,Ai _,Ai _,λ _=>by rw[N1 j h1 h2];exact ⟨rfl,rfl⟩,λ _=>by rw[N1 j h1 h2]⟩;unfold sg at hj ⊢;rw[Cs,if_neg h1,if_neg h2];exact hj
 have Av2:UA F w ⟨bc.1,bc.2,[]⟩ e sz r:=hn.rows i r bc hi r6 (by simp);have hN':H6 F w (M' id) t e sz rows (some i):=by
   rw[J6];refine ⟨hn.pos,by simp[hn.xl],hn.le,hn.max,λ hc=>?_,λ j r' b' h1 h2 h3=>?_,λ j b' h1 h2=>?_,λ j1 j2 b1 b2 h1 h2 h3 h4 h5=>?_,λ j b' h1 h2 h3=>?_⟩
   . obtain ⟨g1,row,g2,g3,g4⟩:=hn.outer hc;refine ⟨g1,row,g2,g3,λ j r' b' h1 h2 h3=>?_⟩;rcases Eo h2 with ⟨h4,_⟩ | ⟨_,h4⟩
     . exact (h3 (by rw[h4])).elim
     . exact g4 j r' b' h1 h4 (by simp)
   . rcases Eo h2 with ⟨h4,_⟩ | ⟨_,h4⟩
     . exact (h3 (by rw[h4])).elim
     . exact hn.rows j r' b' h1 h4 (by simp)
   . rcases Eo h2 with ⟨_,h4⟩ | ⟨h4,_⟩
     . rw[h4]
     . exact (h4 (Ac h1)).elim
   . rcases Eo h1 with ⟨_,e1⟩ | ⟨_,e1⟩
     . rw[e1] at h4;exact (h4 rfl).elim
     . rcases Eo h2 with ⟨_,e2⟩ | ⟨_,e2⟩
       . rw[e2] at h5;exact (h5 rfl).elim
       . exact hn.dis j1 j2 b1 b2 e1 e2 h3 h4 h5
   . rcases Eo h1 with ⟨_,e1⟩ | ⟨_,e1⟩
     . rw[e1] at h2;exact (h2 rfl).elim
     . exact hn.out j b' e1 h2 h3
 have Mc:∀b,Dz (M' id) b->Dz (M id) b/\¬(bc.2≠0/\b=bc.1):=by
   intro b hb;rw[J6] at hb;rcases hb with ⟨h1,h2⟩ | ⟨j,b',h1,h2,h3⟩
   . exact ⟨.inl ⟨h1,h2⟩,λ h3=>hn.out i bc r6 h3.1 h1 (h3.2.symm.trans h2)⟩
   . rcases Eo h1 with ⟨_,e1⟩ | ⟨e0,e1⟩
     . rw[e1] at h2;exact (h2 rfl).elim
     . exact ⟨.inr ⟨j,b',e1,h2,h3⟩,λ h4=>hn.dis i j bc b' r6 e1 e0 h4.1 h2 (h4.2.symm.trans h3)⟩
 have Apt:∀b,(AO.arr e sz r).F8 (M' q) b->bc.2≠0/\b=bc.1:=λ b hb=>by rw[IB] at hb;exact hb
 refine ⟨G5,hr.Ajy G5 (λ j o hj=>?_) (λ j o b hj hb=>?_) (λ j o j' o' b hj Hc hb Rc=>?_)⟩
 . rw[Cs] at hj;split at hj
   . rename_i h1;subst h1;cases hj;right;rw[IB];exact Av2
   . split at hj
     . rename_i h2;subst h2;cases hj;exact .inr hN'
     . rename_i h1 h2;exact .inl ⟨hj,N1 j h1 h2⟩
 . rw[Cs] at hj;split at hj
   . rename_i h1;subst h1;cases hj;exact ⟨id,_,hg,.inr ⟨i,bc,r6,Apt b hb⟩⟩
   . split at hj
     . rename_i h2;subst h2;cases hj;exact ⟨j,_,hg,(Mc b hb).1⟩
     . rename_i h1 h2;rw[N1 j h1 h2] at hb;exact ⟨j,o,hj,hb⟩
 . rw[Cs] at hj Hc;have LR:∀j o,j≠q->j≠id->get st.hp j=some o->o.F8 (M' j) b->Dz (M id) b->False:=λ j o h1 h2 h3 h4 h5=>by
     rw[N1 j h1 h2] at h4;exact h2 (hr.heap.inj j o id _ b h3 hg h4 h5)
   split at hj
   . rename_i h1;subst h1;cases hj;have hbq:=Apt b hb;split at Hc
     . rename_i E0;exact E0.symm
     . split at Hc
       . rename_i He;subst He;cases Hc;exact ((Mc b Rc).2 hbq).elim
       . rename_i E0 He;exact (LR j' o' E0 He Hc Rc (.inr ⟨i,bc,r6,hbq⟩)).elim
   . rename_i h1;split at hj
     . rename_i h2;subst h2;cases hj;split at Hc
       . rename_i E0;subst E0;cases Hc;exact ((Mc b hb).2 (Apt b Rc)).elim
       . split at Hc
         . rename_i He;exact He.symm
         . rename_i E0 He;exact (LR j' o' E0 He Hc Rc (Mc b hb).1).elim
     . rename_i h2;split at Hc
       . rename_i E0;subst E0;cases Hc;exact (LR j o h1 h2 hj hb (.inr ⟨i,bc,r6,Apt b Rc⟩)).elim
       . split at Hc
         . rename_i He;subst He;cases Hc;exact (LR j o h1 h2 hj hb (Mc b Rc).1).elim
         . rename_i E0 He;rw[N1 j h1 h2] at hb;rw[N1 j' E0 He] at Rc;exact hr.heap.inj j o j' o' b hj Hc hb Rc
theorem Vf{hp:Hp}{id:Nat}{o:AO}(h:get hp id=some o)(j:Nat):get (Cw hp id o) j=get hp j:=by
 rw[CM];split
 . rename_i e;rw[e,h]
 . rfl
theorem Rel.drop(hr:Rel c st a w F M){id i:Nat}{t e:TypeId}{sz k:Nat}{rows:List (List (List Pd))}(hg:get st.hp id=some (.Dj t e sz k rows none))(hi:i<rows.length):
   Rel c {st with hp:=Cw st.hp id (.Dj t e sz (k+1) rows (some i))} a w F (λ j=>if j=id then {(M id) with xs:=(M id).xs.set i (0,0)} else M j):=by
 have hn:H6 F w (M id) t e sz rows none:=hr.heap.obj id _ hg;generalize hM':(λ j=>if j=id then {(M id) with xs:=(M id).xs.set i (0,0)} else M j)=M';have J6:M' id={(M id) with xs:=(M id).xs.set i (0,0)}:=by rw[<-hM'];simp
 have N1:∀j,j≠id->M' j=M j:=λ j h=>by rw[<-hM'];simp[h]
 have Cs:∀j,get (Cw st.hp id (.Dj t e sz (k+1) rows (some i))) j=if j=id then some (.Dj t e sz (k+1) rows (some i)) else get st.hp j:=CM _ _ _
 have Q1:sg st.hp id=some (.Dj sz rows.length k):=by simp[sg,hg,AO.sg]
 have G5:CN M M' (sg st.hp) (sg (Cw st.hp id (.Dj t e sz (k+1) rows (some i)))):=by
   refine ⟨λ j hj=>?_,λ j s2 n2 hj=>?_,λ j s2 n2 k2 hj=>?_⟩
   . have h2:j≠id:=λ e=>by rw[e,Q1] at hj;cases hj
     refine ⟨?_,by rw[N1 j h2]⟩;unfold sg at hj ⊢;rw[Cs,if_neg h2];exact hj
   . have h2:j≠id:=λ e=>by rw[e,Q1] at hj;cases hj
     refine ⟨n2,?_,Ai _,λ _=>N1 j h2⟩;unfold sg at hj ⊢;rw[Cs,if_neg h2];exact hj
   . by_cases h2:j=id
     . subst h2;rw[Q1] at hj;simp only[Al,Sg.Dj.injEq] at hj;obtain ⟨rfl,rfl,rfl⟩:=hj;refine ⟨_,k+1,?_,Ai _,Nat.le_succ _,λ _=>by rw[J6];exact ⟨rfl,rfl⟩,λ h=>by omega⟩;unfold sg;rw[Cs,if_pos rfl];rfl
     . refine ⟨n2,k2,?_,Ai _,Ai _,λ _=>by rw[N1 j h2];exact ⟨rfl,rfl⟩,λ _=>by rw[N1 j h2]⟩;unfold sg at hj ⊢;rw[Cs,if_neg h2];exact hj
 have hN':H6 F w (M' id) t e sz rows (some i):=by
   rw[J6];refine ⟨hn.pos,by simp[hn.xl],hn.le,hn.max,λ hc=>?_,λ j r' b' h1 h2 h3=>?_,λ j b' h1 h2=>?_,λ j1 j2 b1 b2 h1 h2 h3 h4 h5=>?_,λ j b' h1 h2 h3=>?_⟩
   . obtain ⟨g1,row,g2,g3,g4⟩:=hn.outer hc;refine ⟨g1,row,g2,g3,λ j r' b' h1 h2 h3=>?_⟩;rcases Eo h2 with ⟨h4,_⟩ | ⟨_,h4⟩
     . exact (h3 (by rw[h4])).elim
     . exact g4 j r' b' h1 h4 (by simp)
   . rcases Eo h2 with ⟨h4,_⟩ | ⟨_,h4⟩
     . exact (h3 (by rw[h4])).elim
     . exact hn.rows j r' b' h1 h4 (by simp)
   . rcases Eo h2 with ⟨_,h4⟩ | ⟨h4,_⟩
     . rw[h4]
     . exact (h4 (Ac h1)).elim
   . rcases Eo h1 with ⟨_,e1⟩ | ⟨_,e1⟩
     . rw[e1] at h4;exact (h4 rfl).elim
     . rcases Eo h2 with ⟨_,e2⟩ | ⟨_,e2⟩
       . rw[e2] at h5;exact (h5 rfl).elim
       . exact hn.dis j1 j2 b1 b2 e1 e2 h3 h4 h5
   . rcases Eo h1 with ⟨_,e1⟩ | ⟨_,e1⟩
     . rw[e1] at h2;exact (h2 rfl).elim
     . exact hn.out j b' e1 h2 h3
 have Mc:∀b,Dz (M' id) b->Dz (M id) b:=by
   intro b hb;rw[J6] at hb;rcases hb with ⟨h1,h2⟩ | ⟨j,b',h1,h2,h3⟩
   . exact .inl ⟨h1,h2⟩
   . rcases Eo h1 with ⟨_,e1⟩ | ⟨e0,e1⟩
     . rw[e1] at h2;exact (h2 rfl).elim
     . exact .inr ⟨j,b',e1,h2,h3⟩
 refine hr.Ajy G5 (λ j o hj=>?_) (λ j o b hj hb=>?_) (λ j o j' o' b hj Hc hb Rc=>?_)
 . rw[Cs] at hj;split at hj
   . rename_i h2;subst h2;cases hj;exact .inr hN'
   . rename_i h2;exact .inl ⟨hj,N1 j h2⟩
 . rw[Cs] at hj;split at hj
   . rename_i h2;subst h2;cases hj;exact ⟨j,_,hg,Mc b hb⟩
   . rename_i h2;rw[N1 j h2] at hb;exact ⟨j,o,hj,hb⟩
 . rw[Cs] at hj Hc;have LR:∀j o,j≠id->get st.hp j=some o->o.F8 (M' j) b->Dz (M' id) b->False:=λ j o h2 h3 h4 h5=>by
     rw[N1 j h2] at h4;exact h2 (hr.heap.inj j o id _ b h3 hg h4 (Mc b h5))
   split at hj
   . rename_i h2;subst h2;cases hj;split at Hc
     . rename_i He;exact He.symm
     . rename_i He;exact (LR j' o' He Hc Rc hb).elim
   . rename_i h2;split at Hc
     . rename_i He;subst He;cases Hc;exact (LR j o h2 hj hb Rc).elim
     . rename_i He;rw[N1 j h2] at hb;rw[N1 j' He] at Rc;exact hr.heap.inj j o j' o' b hj Hc hb Rc
theorem Rel.Aiu(hr:Rel c st a w F M){id i:Nat}{t e:TypeId}{sz k:Nat}{rows:List (List (List Pd))}(hg:get st.hp id=some (.Dj t e sz k rows (some i)))(hi:i<rows.length)(v:Value)(h1:v.oneCell'=true):
   ∃w',(storeCells ⟨(M id).Dt,i,none⟩ [v]).run P w= .ok () w'/\Rel c st a w' F M/\∃row,w'.heap[(M id).Dt]?=some (.cells row t (0,0))/\row.size=(M id).cap/\row.getD i undef=v:=by
 have hn:H6 F w (M id) t e sz rows (some i):=hr.heap.obj id _ hg;have Ju:(M id).cap≠0:=by have:=hn.le;omega
 obtain ⟨LC,row,CS,Hr,CP⟩:=hn.outer Ju;have Ct:i<row.size:=by have:=hn.le;omega
 have I5:=run_storeCells_at P (M id).Dt i t [v] 0 row w CS (by simp;omega) (by simpa using h1);simp only[Bj,Ar,Az,A2] at I5;have Ip:∀p,((row.toList.take i++[v]++row.toList.drop (i+1)).toArray).getD p undef=if p=i then v else row.getD p undef:=by
   intro p;have e1:row.toList.take i++[v]++row.toList.drop (i+1)=row.toList.set i v:=by
     rw[List.set_eq_take_append_cons_drop,if_pos (by simpa using Ct)];simp
   rw[e1];simp only[As,BU,BR];by_cases e2:i=p
   . subst e2;simp[Ct]
   . rw[if_neg e2,if_neg (Bm e2)];simp
 have Em:((row.toList.take i++[v]++row.toList.drop (i+1)).toArray).size=(M id).cap:=by
   simp;omega
 have Cs:=Vf hg;refine ⟨_,I5,?_,_,setRow_heap w _ _ _ t (0,0) CS,Em,by rw[Ip,if_pos rfl]⟩;have hh:∀j,get st.hp j=if j=id then some (.Dj t e sz k rows (some i)) else get st.hp j:=λ j=>by split<;>simp_all
 have hch:=hr.change (M':=M) (hp':=st.hp) (w':=w.setRow (M id).Dt (row.toList.take i++[v]++row.toList.drop (i+1)).toArray) hh (λ _ _=>rfl) (CN.refl _ _) rfl rfl rfl (by simp)
   (λ b hb Dl=>setRow_other w _ b _ (λ e=>Dl _ hg (.inl ⟨Ju,e⟩))) ?_ (λ b hb=> .inl ⟨_,hg,hb⟩)
 . exact hch
 . refine ⟨hn.pos,hn.xl,hn.le,hn.max,λ _=>⟨LC,_,setRow_heap w _ _ _ t (0,0) CS,Em,λ j r bc h2 h3 h4=>?_⟩,λ j r bc h2 h3 h4=>?_,hn.Aac,hn.dis,hn.out⟩
   . obtain ⟨ad,h5,h6⟩:=CP j r bc h2 h3 h4;have:j≠i:=λ e=>h4 (by rw[e]);exact ⟨ad,by rw[Ip,if_neg this];exact h5,h6⟩
   . refine (hn.rows j r bc h2 h3 h4).keep (λ b hb=>setRow_other w _ b _ (λ e=>LC (e ▸ hb))) (λ _ h=>h) (λ hc=>⟨setRow_other w _ _ _ (hn.out j bc h3 hc Ju),?_⟩);exact ((hn.rows j r bc h2 h3 h4).2.2.2.2 hc).1
theorem Rel.fill(hr:Rel c st a w F M){id i q:Nat}{t e:TypeId}{sz k:Nat}{rows:List (List (List Pd))}{es:List (List Pd)}(hg:get st.hp id=some (.Dj t e sz k rows (some i)))(hi:i<rows.length)
   (hq:get st.hp q=some (.arr e sz es)) (CS:∃row,w.heap[(M id).Dt]?=some (.cells row t (0,0))/\∃ad,row.getD i undef= .slice ad es.length (M q).cap/\((M q).cap=0∨ad=some ⟨(M q).Dt,0,none⟩)):
   Rel c {st with hp:=Cw (Cw st.hp id (.Dj t e sz (k+1) (rows.set i es) none)) q (.Fi (IK (.arr sz (es.length+1))))} a w F (λ j=>if j=id then {(M id) with xs:=(M id).xs.set i ((M q).Dt,(M q).cap)} else M j):=by
 have hn:H6 F w (M id) t e sz rows (some i):=hr.heap.obj id _ hg;have hA:UA F w (M q) e sz es:=hr.heap.obj q _ hq;have Zp:q≠id:=λ e=>by rw[e,hg] at hq;cases hq
 generalize hM':(λ j=>if j=id then {(M id) with xs:=(M id).xs.set i ((M q).Dt,(M q).cap)} else M j)=M';have J6:M' id={(M id) with xs:=(M id).xs.set i ((M q).Dt,(M q).cap)}:=by rw[<-hM'];simp
 have N1:∀j,j≠id->M' j=M j:=λ j h=>by rw[<-hM'];simp[h]
 have Cs:∀j,get (Cw (Cw st.hp id (.Dj t e sz (k+1) (rows.set i es) none)) q (.Fi (IK (.arr sz (es.length+1))))) j=
     if j=q then some (.Fi (IK (.arr sz (es.length+1)))) else if j=id then some (.Dj t e sz (k+1) (rows.set i es) none) else get st.hp j:=λ j=>by rw[CM,CM]
 have Q1:sg st.hp id=some (.Dj sz rows.length k):=by simp[sg,hg,AO.sg]
 have U9:sg st.hp q=some (.arr sz es.length):=by simp[sg,hq,AO.sg]
 have G5:CN M M' (sg st.hp) (sg (Cw (Cw st.hp id (.Dj t e sz (k+1) (rows.set i es) none)) q (.Fi (IK (.arr sz (es.length+1)))))):=by
   refine ⟨λ j hj=>?_,λ j s2 n2 hj=>?_,λ j s2 n2 k2 hj=>?_⟩
   . have h1:j≠q:=λ e=>by rw[e,U9] at hj;cases hj
     have h2:j≠id:=λ e=>by rw[e,Q1] at hj;cases hj
     refine ⟨?_,by rw[N1 j h2]⟩;unfold sg at hj ⊢;rw[Cs,if_neg h1,if_neg h2];exact hj
   . have h2:j≠id:=λ e=>by rw[e,Q1] at hj;cases hj
     by_cases h1:j=q
     . subst h1;rw[U9] at hj;simp only[Al,Sg.arr.injEq] at hj;obtain ⟨rfl,rfl⟩:=hj;refine ⟨es.length+1,?_,Nat.le_succ _,λ h=>by omega⟩;unfold sg;rw[Cs,if_pos rfl];rfl
     . refine ⟨n2,?_,Ai _,λ _=>N1 j h2⟩;unfold sg at hj ⊢;rw[Cs,if_neg h1,if_neg h2];exact hj
   . have h1:j≠q:=λ e=>by rw[e,U9] at hj;cases hj
     by_cases h2:j=id
     . subst h2;rw[Q1] at hj;simp only[Al,Sg.Dj.injEq] at hj;obtain ⟨rfl,rfl,rfl⟩:=hj;refine ⟨_,k+1,?_,Ai _,Nat.le_succ _,λ _=>by rw[J6];exact ⟨rfl,rfl⟩,λ h=>by omega⟩;unfold sg;rw[Cs,if_neg h1,if_pos rfl];simp[AO.sg]
     . refine ⟨n2,k2,?_,Ai _,Ai _,λ _=>by rw[N1 j h2];exact ⟨rfl,rfl⟩,λ _=>by rw[N1 j h2]⟩;unfold sg at hj ⊢;rw[Cs,if_neg h1,if_neg h2];exact hj
 have Axw:i<(M id).xs.length:=by rw[hn.xl];exact hi
 have Dl:∀b,(M q).cap≠0->b=(M q).Dt->¬Dz (M id) b:=λ b h1 h2 h3=>Zp (hr.heap.inj q _ id _ b hq hg ⟨h1,h2⟩ h3);have Aj5:∀{j r'},(rows.set i es)[j]?=some r'->(i=j/\r'=es)∨(i≠j/\rows[j]?=some r'):=by
   intro j r' h;by_cases e:i=j
   . subst e;rw[BE hi] at h;exact .inl ⟨rfl,(Ac h).symm⟩
   . rw[List.getElem?_set_ne e] at h;exact .inr ⟨e,h⟩
 have hN':H6 F w (M' id) t e sz (rows.set i es) none:=by
   rw[J6];refine ⟨hn.pos,by simp[hn.xl],by simpa using hn.le,hn.max,λ hc=>?_,λ j r' b' h1 h2 h3=>?_,λ j b' h1 h2=>(by cases h1),λ j1 j2 b1 b2 h1 h2 h3 h4 h5=>?_,λ j b' h1 h2 h3=>?_⟩
   . obtain ⟨g1,row,g2,g3,g4⟩:=hn.outer hc;refine ⟨g1,row,g2,g3,λ j r' b' h1 h2 h3=>?_⟩;rcases Aj5 h1 with ⟨rfl,rfl⟩ | ⟨e0,e1⟩
     . rcases Eo h2 with ⟨_,rfl⟩ | ⟨h4,_⟩
       . obtain ⟨row2,g5,ad,g6,g7⟩:=CS;rw[g2] at g5;cases g5;exact ⟨ad,g6,g7⟩
       . exact (h4 rfl).elim
     . rcases Eo h2 with ⟨h4,_⟩ | ⟨_,h4⟩
       . exact (e0 h4).elim
       . exact g4 j r' b' e1 h4 (λ h=>e0 (Ac h))
   . rcases Aj5 h1 with ⟨rfl,rfl⟩ | ⟨e0,e1⟩
     . rcases Eo h2 with ⟨_,rfl⟩ | ⟨h4,_⟩
       . exact hA
       . exact (h4 rfl).elim
     . rcases Eo h2 with ⟨h4,_⟩ | ⟨_,h4⟩
       . exact (e0 h4).elim
       . exact hn.rows j r' b' e1 h4 (λ h=>e0 (Ac h))
   . rcases Eo h1 with ⟨d1,e1⟩ | ⟨d1,e1⟩
     . rcases Eo h2 with ⟨d2,e2⟩ | ⟨d2,e2⟩
       . exact (h3 (d1.symm.trans d2)).elim
       . intro h6;subst e1;exact Dl _ h4 rfl (.inr ⟨j2,b2,e2,h5,h6⟩)
     . rcases Eo h2 with ⟨d2,e2⟩ | ⟨d2,e2⟩
       . intro h6;subst e2;exact Dl _ h5 rfl (.inr ⟨j1,b1,e1,h4,h6.symm⟩)
       . exact hn.dis j1 j2 b1 b2 e1 e2 h3 h4 h5
   . rcases Eo h1 with ⟨d1,e1⟩ | ⟨d1,e1⟩
     . intro h6;subst e1;exact Dl _ h2 rfl (.inl ⟨h3,h6⟩)
     . exact hn.out j b' e1 h2 h3
 have Mc:∀b,Dz (M' id) b->Dz (M id) b∨((M q).cap≠0/\b=(M q).Dt):=by
   intro b hb;rw[J6] at hb;rcases hb with ⟨h1,h2⟩ | ⟨j,b',h1,h2,h3⟩
   . exact .inl (.inl ⟨h1,h2⟩)
   . rcases Eo h1 with ⟨_,e1⟩ | ⟨_,e1⟩
     . subst e1;exact .inr ⟨h2,h3⟩
     . exact .inl (.inr ⟨j,b',e1,h2,h3⟩)
 refine hr.Ajy G5 (λ j o hj=>?_) (λ j o b hj hb=>?_) (λ j o j' o' b hj Hc hb Rc=>?_)
 . rw[Cs] at hj;split at hj
   . cases hj;exact .inr trivial
   . split at hj
     . rename_i h2;subst h2;cases hj;exact .inr hN'
     . rename_i h1 h2;exact .inl ⟨hj,N1 j h2⟩
 . rw[Cs] at hj;split at hj
   . cases hj;exact hb.elim
   . split at hj
     . rename_i h2;subst h2;cases hj;rcases Mc b hb with h3 | h3
       . exact ⟨j,_,hg,h3⟩
       . exact ⟨q,_,hq,h3⟩
     . rename_i h1 h2;rw[N1 j h2] at hb;exact ⟨j,o,hj,hb⟩
 . rw[Cs] at hj Hc;have LR:∀j o,j≠q->j≠id->get st.hp j=some o->o.F8 (M' j) b->Dz (M' id) b->False:=λ j o h1 h2 h3 h4 h5=>by
     rw[N1 j h2] at h4;rcases Mc b h5 with h6 | h6
     . exact h2 (hr.heap.inj j o id _ b h3 hg h4 h6)
     . exact h1 (hr.heap.inj j o q _ b h3 hq h4 h6)
   split at hj
   . cases hj;exact hb.elim
   . rename_i h1;split at Hc
     . cases Hc;exact Rc.elim
     . rename_i E0;split at hj
       . rename_i h2;subst h2;cases hj;split at Hc
         . rename_i He;exact He.symm
         . rename_i He;exact (LR j' o' E0 He Hc Rc hb).elim
       . rename_i h2;split at Hc
         . rename_i He;subst He;cases Hc;exact (LR j o h1 h2 hj hb Rc).elim
         . rename_i He;rw[N1 j h2] at hb;rw[N1 j' He] at Rc;exact hr.heap.inj j o j' o' b hj Hc hb Rc
end
end Go.Am
namespace Go.Am
open Go
section
variable {P:Program} {c:Ctx} {st:St} {a:Act} {w:World} {F:Nat->Prop} {M:Nat->Mb}
theorem H7{t t2 ty e:TypeId}{u2:TypeDesc}{i:TypeInfo}(ht:P.underlying t=some (.slice e))(ht2:P.underlying t2=some u2)(Q4:∀k,u2≠ .int k)(hi:P.info? e=some i)
   {base:Option Addr} {n cap m:Nat} {vx:Value} {news:Array Value} {w':World} (hlen:(Builtin.lenOf vx).run P w= .ok m w) (hf:(Builtin.firstCells i.size m vx).run P w= .ok news w)
   (Kw:n+m<=cap) (I5:∀ad,base=some ad->(storeCells (ad.add (n*i.size)) news.toList).run P w= .ok () w') (Axr:base=none->w'=w):
   (Builtin.append_ #[t,t2] ty #[.slice base n cap,vx]).run P w= .ok (.slice base (n+m) cap) w':=by
 have hz:(match u2 with | .int _=>true | _=>false)=false:=by cases u2<;>first | rfl | exact (Q4 _ rfl).elim
 cases base with
 | none=>
   obtain rfl:=Axr rfl;simp[Builtin.append_,run_underlying ht,run_underlying ht2,hz,Dh hi,hlen,Kw,hf]
 | some ad=>
   simp[Builtin.append_,run_underlying ht,run_underlying ht2,hz,Dh hi,hlen,Kw,hf,I5 ad rfl]
theorem Hk{t t2 ty e:TypeId}{u2:TypeDesc}{i:TypeInfo}{z:Value}(ht:P.underlying t=some (.slice e))(ht2:P.underlying t2=some u2)(Q4:∀k,u2≠ .int k)(hi:P.info? e=some i)
   (hz:i.zero=some z) {base:Option Addr} {n cap m:Nat} {vx:Value} {news IQ:Array Value} (hlen:(Builtin.lenOf vx).run P w= .ok m w)
   (hf:(Builtin.firstCells i.size m vx).run P w.drew= .ok news w.drew) (hfo:(Builtin.firstCells i.size n (.slice base n cap)).run P w.drew= .ok IQ w.drew)
   (Kw:cap<n+m) (h63:n+m<=140737488355328) (hb:(n+m)*i.bytes<=140737488355328):
   (Builtin.append_ #[t,t2] ty #[.slice base n cap,vx]).run P w=
     .ok (.slice (some ⟨w.heap.size,0,none⟩) (n+m) (grownCap w (n+m) cap e)) (w.drew.alloc (.cells (IQ++news++Builtin.zeroCells z.cells (grownCap w (n+m) cap e - (n+m))) e)):=by
 have hz':(match u2 with | .int _=>true | _=>false)=false:=by cases u2<;>first | rfl | exact (Q4 _ rfl).elim
 have hn:¬(n+m<=cap):=by omega
 have Bca:¬(9223372036854775807<((n:Int)+(m:Int))):=by omega
 have Bcb:¬(281474976710656<Builtin.nextslicecap (n+m) cap*i.bytes):=by
   have:=growslice_fits Kw hb;omega
 simp[Builtin.append_,run_underlying ht,run_underlying ht2,hz',Dh hi,hlen,hn,Bca,Bcb,typeInfo,hi,Question.forced,hf,hfo,zeroValue,hz,newRow,grownCap]
structure Src(P:Program)(w:World)(F:Nat->Prop)(sz:Nat)(vx:Value)(ys:List (List Pd))(news:List Value):Prop where
 len:∀w1:World,(Builtin.lenOf vx).run P w1= .ok ys.length w1
 cells:∀w1:World,w1.heap=w.heap->(Builtin.firstCells sz ys.length vx).run P w1= .ok news.toArray w1
 pre:∀n,n<=ys.length->∀w1:World,w1.heap=w.heap->(Builtin.firstCells sz n vx).run P w1= .ok (news.take (n*sz)).toArray w1
 size:news.length=ys.length*sz
 data:∀(i:Nat) y (j:Nat) x,ys[i]?=some y->y[j]?=some x->PR F w x (news.getD (i*sz+j) undef)
theorem KV{es:List (List Pd)}{ad:Option Addr}{cap sz:Nat}(Em:∀y∈es,y.length=sz)
   (h:es≠[]->∃b off row t fr,ad=some ⟨b,off,none⟩/\w.heap[b]?=some (.cells row t fr)/\(off+es.length*sz<=row.size)/\
     ∀(i:Nat) e (j:Nat) c,es[i]?=some e->e[j]?=some c->PR F w c (row.getD (off+i*sz+j) undef)):∃news,Src P w F sz (.slice ad es.length cap) es news:=by
 by_cases h0:es=[]
 . subst h0;exact ⟨[],⟨λ w1=>by simp[Builtin.lenOf],λ w1 _=>by cases ad<;>simp[Builtin.firstCells,loadCells,loadCellsFrom],λ n hn w1 _=>by
     obtain rfl:n=0:=by simpa using hn
     cases ad<;>simp[Builtin.firstCells,loadCells,loadCellsFrom],by simp,λ i y j x hy _=>by simp at hy⟩⟩
 . obtain ⟨b,off,row,t,fr,rfl,hh,Auy,hp⟩:=h h0;have hlen:((row.toList.drop off).take (es.length*sz)).length=es.length*sz:=by simp;omega
   refine ⟨(row.toList.drop off).take (es.length*sz),⟨λ w1=>by simp[Builtin.lenOf],λ w1 RW=>?_,λ n hn w1 RW=>?_,hlen,λ i y j x hy hx=>?_⟩⟩
   . refine run_firstCells_some (P:=P) w1 sz es.length ⟨b,off,none⟩ es.length cap _ hlen (λ j v hv=>?_);rw[Addr.add_lit,cell_of_row w1 b (off+j) row t fr (by rw[RW];exact hh)];rw[AH] at hv;split at hv
     . simpa using hv
     . cases hv
   . refine run_firstCells_some (P:=P) w1 sz n ⟨b,off,none⟩ es.length cap _ (by rw[Bi,hlen];exact Nat.min_eq_left (Bu _ hn)) (λ j v hv=>?_);rw[Addr.add_lit,cell_of_row w1 b (off+j) row t fr (by rw[RW];exact hh)];rw[AH] at hv;split at hv
     . rw[AH] at hv;split at hv
       . simpa using hv
       . cases hv
     . cases hv
   . have:=hp i y j x hy hx;have Ct:i*sz+j<es.length*sz:=by
       have h1:=(An.1 hy).1;have h2:=(An.1 hx).1;exact Jd h1 (Ai _) (by have:=Em y (AU hy);omega)
     rw[Ay,AH,if_pos Ct,AV];rwa[As,Nat.add_assoc,<-BJ] at this
theorem MV{es:List (List Pd)}{v:Value}(h:PR F w (.sl es) v){sz:Nat}(Em:∀y∈es,y.length=sz)(FU:0<sz):∃news,Src P w F sz v es news:=by
 cases h with
 | Vz ad cap=>exact KV (es:=[]) Em (λ h=>(h rfl).elim)
 | sl _ b off cap RC row t fr hF hh hc hs hi hp=>
   refine KV Em (λ h0=>?_);have Ast:0<es.length:=List.length_pos_iff.2 h0;have e0:es[0]?=some es[0]:=Ax Ast;have hz:RC=sz:=(hs 0 _ e0).symm.trans (Em _ (AS Ast));subst hz;refine ⟨b,off,row,t,fr,rfl,hh,?_,hp⟩;have el:es[es.length - 1]?=some es[es.length - 1]:=Ax (by omega);have hl:=hs _ _ el;have:=hi _ _ (RC - 1) _ el (Ax (by omega));have e2:es.length*RC=(es.length - 1)*RC+RC:=by rw[<-Nat.succ_mul];congr 1;omega
   omega
theorem w8(l:List UInt8){sz:Nat}(Em:∀y∈D3 l,y.length=sz):Src P w F sz (.string ⟨l.toArray⟩) (D3 l) (l.map λ b=>Value.int .u8 b.toNat):=by
 have hlen:(D3 l).length=l.length:=by simp[D3]
 have hs:l.length*sz=l.length:=by
   cases l with
   | nil=>simp
   | cons b r=>have:=Em [Pd.int .u8 b.toNat] (by simp[D3]);simp at this;subst this;simp
 refine ⟨λ w1=>by simp[Builtin.lenOf,hlen,Ig],λ w1 _=>?_,λ n hn w1 _=>?_,by simp[hlen,hs],λ i y j x hy hx=>?_⟩
 . simp only[Builtin.firstCells,hlen,Sem.run_pure]
   congr 1
   apply Array.ext';simp
 . have hns:n*sz=n:=by
     cases l with
     | nil=>simp[D3] at hn;simp[hn]
     | cons b r=>have:=Em [Pd.int .u8 b.toNat] (by simp[D3]);simp at this;subst this;simp
   simp only[Builtin.firstCells,hns,Sem.run_pure]
   congr 1
   apply Array.ext';simp[Bz]
 . simp only[D3,AQ] at hy;cases hb:l[i]? with
   | none=>rw[hb] at hy;cases hy
   | some b=>
     rw[hb] at hy;simp only[Bn,Al] at hy;subst hy;cases j with
     | succ j=>simp at hx
     | zero=>
       simp only[AK,Al] at hx;subst hx;have hz:sz=1:=by
         have:=Em [Pd.int .u8 b.toNat] (by simp only[D3,AP];exact ⟨b,AU hb,rfl⟩)
         simpa using this.symm
       subst hz;simp only[Nat.mul_one,Bj];rw[Ay,AQ,hb];exact .int _ _
theorem NV{α:Type}{x:α}{l:List α}{n m:Nat}(h:x∈(l.drop n).take m):x∈l:=List.mem_of_mem_drop (BN h)
theorem SV(hr:HR F w M st.hp){id off len sz:Nat}{es:List (List Pd)}{v:Value}(hg:(∃t,get st.hp id=some (.arr t sz es))∨get st.hp id=some (.LG sz es))
   (h:RI (M id) sz es.length off len v):∃news,Src P w F sz v ((es.drop off).take len) news:=by
 obtain ⟨ad,cap,rfl,h1,h2,h3,h4⟩:=h;obtain ⟨h5,h6,h7,h8⟩:=hr.row hg;have hlen:((es.drop off).take len).length=len:=by simp;omega
 have Cs:∀(i:Nat) e,((es.drop off).take len)[i]?=some e->es[off+i]?=some e:=λ i e he=>by
   rw[AH] at he;split at he
   . rwa[AV] at he
   . cases he
 have key:=KV (P:=P) (w:=w) (F:=F) (es:=(es.drop off).take len) (ad:=ad) (cap:=cap) (sz:=sz) (λ y hy=>by
   obtain ⟨i,hi⟩:=Bc.1 (NV hy);exact h7 i y hi) (λ h0=>by
   have hl0:0<len:=by
     rcases BV len with h | h
     . subst h;simp at h0
     . exact h
   have h9:=h4.resolve_left (by omega);subst h9;obtain ⟨row,t,fr,JI,r7,Ve⟩:=h8 (by omega);refine ⟨_,_,row,t,fr,rfl,JI,?_,λ i e j x he hx=>?_⟩
   . rw[hlen,r7,<-Bf];exact Bu _ (by omega)
   . have:=Ve _ e j x (Cs i e he) hx;rwa[Bf] at this)
 rw[hlen] at key;exact key
theorem SX(hr:Rel c st a w F M){d:D}{v:Value}(hd:DR F w M (sg st.hp) d v){k:List (List Pd)->Prop}(h:LZ st.hp d k):
   ∃ys,k ys/\∀sz,0<sz->(∀y∈ys,y.length=sz)->∃news,Src P w F sz v ys news:=by
 have ref:∀{id off len N RC n} {es:List (List Pd)},((∃t,get st.hp id=some (.arr t RC es))∨get st.hp id=some (.LG RC es))->sg st.hp id=some (.arr RC es.length)->N=es.length->
     DR F w M (sg st.hp) (.ref id off len N) v->n=len->∀sz,0<sz->(∀y∈(es.drop off).take len,y.length=sz)->∃news,Src P w F sz v ((es.drop off).take len) news:=by
   intro id off len N RC n es hg Hs hN hd _ sz FU Em;cases hd with
   | ref _ _ _ _ OV n2 _ hs hN2 hv h2=>
     rw[Hs] at hs;simp only[Al,Sg.arr.injEq] at hs;obtain ⟨rfl,rfl⟩:=hs;have RY:=h2 hN;by_cases h0:(es.drop off).take len=[]
     . obtain ⟨ad,cap,rfl,h3,_⟩:=RY;rw[h0];have:len=0:=by
         have:=AR List.length h0;simp at this;omega
       subst this;exact KV (es:=[]) (by simp) (λ h=>(h rfl).elim)
     . obtain ⟨y,hy⟩:=List.exists_mem_of_ne_nil _ h0;have e1:=Em y hy;obtain ⟨i,hi⟩:=Bc.1 (NV hy);have e2:=(hr.heap.row hg).2.2.1 i y hi;have:RC=sz:=by omega
       subst this;exact SV hr.heap hg RY
 unfold LZ at h;split at h
 . rename_i ys;cases hd with | p hx=>exact ⟨ys,h,λ sz FU Em=>MV hx Em FU⟩
 . rename_i l;cases hd with | p hx=>cases hx;exact ⟨_,h,λ sz _ Em=>⟨_,w8 l Em⟩⟩
 . rename_i ys;cases hd with | cl _ ad hx _=>exact ⟨ys,h,λ sz FU Em=>MV hx Em FU⟩
 . rename_i id off len N;split at h
   . rename_i t RC es ho;exact ⟨_,h.2,ref (n:=len) (.inl ⟨t,ho⟩) (CW ho) h.1 hd rfl⟩
   . rename_i RC es ho;exact ⟨_,h.2,ref (n:=len) (.inr ho) (CW ho) h.1 hd rfl⟩
   . exact h.elim
 . exact h.elim
theorem Hf(z:Array Value)(n:Nat):(Builtin.zeroCells z n).size=n*z.size:=by simp[Builtin.zeroCells]
theorem JK{es ys:List (List Pd)}{sz:Nat}{IQ news rest:List Value}(p9:IQ.length=es.length*sz)(Lb:news.length=ys.length*sz)
   (Ld:∀(i:Nat) e,es[i]?=some e->e.length=sz) (PB:∀(i:Nat) e,ys[i]?=some e->e.length=sz)
   (ho:∀(i:Nat) y (j:Nat) x,es[i]?=some y->y[j]?=some x->PR F w x (IQ.getD (i*sz+j) undef))
   (hn:∀(i:Nat) y (j:Nat) x,ys[i]?=some y->y[j]?=some x->PR F w x (news.getD (i*sz+j) undef)) (i:Nat) (y:List Pd) (j:Nat) (x:Pd)
   (hy:(es++ys)[i]?=some y) (hx:y[j]?=some x):PR F w x ((IQ++news++rest).getD (i*sz+j) undef):=by
 have hj:=(An.1 hx).1;rw[AN] at hy;rw[A0,Ay];split at hy
 . rename_i Ct;have:=Jd Ct (Ai _) (show j<sz by have:=Ld i y hy;omega);rw[AW (by omega),<-Ay];exact ho i y j x hy hx
 . rename_i hge;have Ct:=(An.1 hy).1;have h1:=Jd Ct (Ai _) (show j<sz by have:=PB _ y hy;omega);have h2:es.length*sz<=i*sz:=Bu _ (by omega);have h3:i*sz+j - es.length*sz=(i - es.length)*sz+j:=by rw[Nat.sub_mul];omega
   rw[Bg (by omega),p9,h3,AW (by omega),<-Ay];exact hn _ y j x hy hx
theorem HV(v:Value):(IS v).cells.length=v.cells.size:=by
 have hl:∀l:List Value,(Nz l).length=l.length:=λ l=>by
   induction l with
   | nil=>rfl
   | cons v r ih=>simp[Nz,ih]
 cases v with
 | agg cs=>simp[IS,D.cells,Value.cells,hl]
 | slice ad l q=>cases ad<;>(try cases l)<;>(try cases q)<;>simp[IS,D.cells,Value.cells]
 | pointer q=>cases q<;>simp[IS,D.cells,Value.cells]
 | _=>simp[IS,D.cells,Value.cells]
theorem Rel.To(hr:Rel c st a w F M){q sz:Nat}{e:TypeId}(hn:get st.hp q=none)(Em:0<sz):
   Rel c {st with hp:=(q,.arr e sz [])::st.hp} a w F (Fh M q ⟨0,0,[]⟩)/\∀ad,DR F w (Fh M q ⟨0,0,[]⟩) (sg ((q,.arr e sz [])::st.hp)) (.ref q 0 0 0) (.slice ad 0 0):=by
 have Cs:=JQ st.hp q (.arr e sz []);have hM:∀j,j≠q->Fh M q ⟨0,0,[]⟩ j=M j:=λ j hj=>by simp[Fh,hj]
 have IB:Fh M q ⟨0,0,[]⟩ q=⟨0,0,[]⟩:=by simp[Fh]
 have G5:=FV Cs hM hn;refine ⟨hr.change Cs hM G5 rfl rfl rfl (Ai _) (λ b hb _=>rfl) ?_ (λ b h=>?_),λ ad=>?_⟩
 . rw[IB];exact ⟨Em,by simp,by simp,by simp,λ h=>(h rfl).elim⟩
 . rw[IB] at h;exact (h.1 rfl).elim
 . exact .ref q 0 0 0 sz 0 _ (by rw[C5 Cs];simp[AO.sg]) (Ai _) ⟨_,_,_,rfl⟩ (λ _=>⟨ad,0,rfl,by omega,by omega,by rw[IB],.inl rfl⟩)
theorem Sd(hr:Rel c st a w F M){q t t2 ty:TypeId}{s x:D}{vs vx:Value}(hs:DR F w M (sg st.hp) s vs)(hx:DR F w M (sg st.hp) x vx){k:D->Hp->Prop}(hnr:∀id i len kk,s≠ .nr id i len kk)
   (h:n7 P st.hp q t t2 s x k):∃d h' v w' M',k d h'/\Rel c {st with hp:=h'} a w' F M'/\DR F w' M' (sg h') d v/\(Builtin.append_ #[t,t2] ty #[vs,vx]).run P w= .ok v w':=by
 unfold n7 at h;split at h
 case h_2=>exact h.elim
 rename_i _ _ _ _ e z0 ti2 h1 h2;obtain ⟨i1,u1,z1,NJ,Fq,hz1,e1⟩:=Cd h1;simp only[TI.mk.injEq] at e1;obtain rfl:=TK.of_slice e1.2.2.1.symm;obtain ⟨i2,u2,z2,EP,LM,hz2,rfl⟩:=Cd h2;obtain ⟨JF,h⟩:=h;have Q4:∀k,u2≠ .int k:=by rintro k rfl;simp[TK.of] at JF
 split at h
 case h_2=>exact h.elim
 rename_i ti h3;obtain ⟨i,u,z,hi,hu,hz,rfl⟩:=Cd h3;obtain ⟨ys,h',Af6⟩:=SX (P:=P) hr hx h;clear h;obtain ⟨PB,FU,hzl,h⟩:=h';simp only at FU hzl PB;rw[HV] at hzl;obtain ⟨news,DU⟩:=Af6 i.size FU PB;have U7:∀(j:Nat) e,ys[j]?=some e->e.length=i.size:=λ j e he=>PB e (AU he);have gr:∀{n cap:Nat},n+ys.length<=140737488355328->n+ys.length<=grownCap w (n+ys.length) cap e/\grownCap w (n+ys.length) cap e<=maxLen:=
   λ hle=>⟨grownCap_ge w _ _ _,grownCap_le_maxLen w _ _ _ (by unfold maxLen;omega)⟩
 split at h
 . rename_i es;obtain ⟨hn,hor,Ld,hby,hle,hk⟩:=h;simp only at Ld hby;cases hs with
   | cl _ ad hp _=>
     obtain ⟨IQ,holds⟩:=MV (P:=P) hp Ld FU;by_cases hy0:ys=[]
     . subst hy0;obtain rfl:es=[]:=by rcases hor with h | h<;>first | exact h | exact (h rfl).elim
       have Lb:news=[]:=List.eq_nil_of_length_eq_zero (by simpa using DU.size);subst Lb;obtain ⟨Kd,XC⟩:=hr.To (e:=e) hn FU;have Dq:=H7 (P:=P) (w:=w) (ty:=ty) (w':=w) Fq LM Q4 hi (base:=ad) (n:=0) (cap:=0) (DU.len w) (DU.cells w rfl) (by simp) (λ ad' _=>rfl) (λ _=>rfl);exact ⟨_,_,_,w,_,hk,Kd,XC ad,Dq⟩
     . have hyl:0<ys.length:=List.length_pos_iff.2 hy0;have Dq:=Hk (P:=P) (w:=w) (ty:=ty) Fq LM Q4 hi hz (base:=ad) (n:=es.length) (cap:=es.length) (DU.len w) (DU.cells w.drew rfl)
         (by have:=holds.cells w.drew rfl;exact this) (by omega) hle hby
       obtain ⟨Ra,hg2⟩:=gr (n:=es.length) (cap:=es.length) hle;have hlen:(es++ys).length=es.length+ys.length:=by simp
       obtain ⟨Kd,XC⟩:=hr.Xe (q:=q) (cap:=grownCap w (es.length+ys.length) es.length e) (sz:=i.size) (es:=es++ys) (e:=e)
         (vs:=IQ.toArray++news.toArray++Builtin.zeroCells z.cells (grownCap w (es.length+ys.length) es.length e - (es.length+ys.length)))
         (w':=w.drew.alloc (.cells (IQ.toArray++news.toArray++Builtin.zeroCells z.cells (grownCap w (es.length+ys.length) es.length e - (es.length+ys.length))) e))
         hn rfl rfl rfl rfl FU (by omega) hg2 (λ j x hj=>by
           rw[AN] at hj;split at hj
           . exact Ld x (AU hj)
           . exact U7 _ x hj) (by
           simp only[Array.size_append,List.size_toArray,Hf,hzl,holds.size,DU.size,<-Nat.add_mul]
           congr 1;omega) (λ j y p x hy hx=>by
           have:=JK (rest:=(Builtin.zeroCells z.cells (grownCap w (es.length+ys.length) es.length e - (es.length+ys.length))).toList) holds.size DU.size
             (λ j e he=>Ld e (AU he)) U7 holds.data DU.data j y p x hy hx
           simpa [List.getD,Array.getD_eq_getD_getElem?,<-Array.getElem?_toList] using this)
       rw[hlen] at XC;exact ⟨_,_,_,_,_,hk,Kd,by rw[hlen];exact XC,Dq⟩
 . rename_i es;obtain ⟨hn,hy0,Ld,hby,hle,hk⟩:=h;simp only at Ld hby;cases hs with
   | cz _ ad hp=>
     obtain ⟨IQ,holds⟩:=MV (P:=P) hp Ld FU;have hyl:0<ys.length:=List.length_pos_iff.2 hy0;have Dq:=Hk (P:=P) (w:=w) (ty:=ty) Fq LM Q4 hi hz (base:=ad) (n:=es.length) (cap:=es.length) (DU.len w) (DU.cells w.drew rfl)
       (by have:=holds.cells w.drew rfl;exact this) (by omega) hle hby
     obtain ⟨Ra,hg2⟩:=gr (n:=es.length) (cap:=es.length) hle;have hlen:(es++ys).length=es.length+ys.length:=by simp
     obtain ⟨Kd,XC⟩:=hr.Xe (q:=q) (cap:=grownCap w (es.length+ys.length) es.length e) (sz:=i.size) (es:=es++ys) (e:=e)
       (vs:=IQ.toArray++news.toArray++Builtin.zeroCells z.cells (grownCap w (es.length+ys.length) es.length e - (es.length+ys.length)))
       (w':=w.drew.alloc (.cells (IQ.toArray++news.toArray++Builtin.zeroCells z.cells (grownCap w (es.length+ys.length) es.length e - (es.length+ys.length))) e))
       hn rfl rfl rfl rfl FU (by omega) hg2 (λ j x hj=>by
         rw[AN] at hj;split at hj
         . exact Ld x (AU hj)
         . exact U7 _ x hj) (by
         simp only[Array.size_append,List.size_toArray,Hf,hzl,holds.size,DU.size,<-Nat.add_mul]
         congr 1;omega) (λ j y p x hy hx=>by
         have:=JK (rest:=(Builtin.zeroCells z.cells (grownCap w (es.length+ys.length) es.length e - (es.length+ys.length))).toList) holds.size DU.size
           (λ j e he=>Ld e (AU he)) U7 holds.data DU.data j y p x hy hx
         simpa [List.getD,Array.getD_eq_getD_getElem?,<-Array.getElem?_toList] using this)
     rw[hlen] at XC;exact ⟨_,_,_,_,_,hk,Kd,by rw[hlen];exact XC,Dq⟩
 . rename_i id off len N;split at h
   case h_2=>exact h.elim
   rename_i e' sz es ho;obtain ⟨rfl,rfl,rfl,rfl,rfl,hby,hle,hk⟩:=h;simp only at hby;have hob:=hr.heap.obj id _ ho;obtain ⟨_,Qk,hcm,Ld,Rb⟩:=hob;simp only at Ld Qk;cases hs with
   | ref _ _ _ _ OV n2 _ Hs hN2 hv h2=>
     rw[CW ho] at Hs;simp only[AO.sg,Al,Sg.arr.injEq] at Hs;obtain ⟨rfl,rfl⟩:=Hs;obtain ⟨ad,cap,rfl,h5,h6,h7,h8⟩:=h2 rfl;simp only[A2] at h7;subst h7;have hlen:(es++ys).length=es.length+ys.length:=by simp
     have DK:∀(j:Nat) x,(es++ys)[j]?=some x->x.length=i.size:=λ j x hj=>by
       rw[AN] at hj;split at hj
       . exact Ld j x hj
       . exact U7 _ x hj
     have Cs:∀j,get (Cw st.hp id (.arr e' i.size (es++ys))) j=if j=id then some (.arr e' i.size (es++ys)) else get st.hp j:=CM _ _ _
     have Xw:sg (Cw st.hp id (.arr e' i.size (es++ys))) id=some (.arr i.size (es++ys).length):=by rw[C5 Cs];simp[AO.sg]
     by_cases Kw:es.length+ys.length<=(M id).cap
     ·
       have G5:CN M M (sg st.hp) (sg (Cw st.hp id (.arr e' i.size (es++ys)))):=by
         refine ⟨λ j hj=>?_,λ j s2 n2 hj=>?_,λ j s2 n2 k2 hj=>?_⟩
         . have e2:j≠id:=λ e2=>by rw[e2,CW ho] at hj;simp[AO.sg] at hj
           rw[C5 Cs,if_neg e2];exact ⟨hj,rfl⟩
         . by_cases e2:j=id
           . subst e2;rw[CW ho] at hj;simp only[AO.sg,Al,Sg.arr.injEq] at hj;obtain ⟨rfl,rfl⟩:=hj;exact ⟨_,Xw,by omega,λ _=>rfl⟩
           . rw[C5 Cs,if_neg e2];exact ⟨n2,hj,Ai _,λ _=>rfl⟩
         . have e2:j≠id:=λ e2=>by rw[e2,CW ho] at hj;simp[AO.sg] at hj
           rw[C5 Cs,if_neg e2];exact ⟨n2,k2,hj,Ai _,Ai _,λ _=>⟨rfl,rfl⟩,λ _=>rfl⟩
       have TU:∀w',DR F w' M (sg (Cw st.hp id (.arr e' i.size (es++ys)))) (.ref id 0 (es++ys).length (es++ys).length) (.slice ad (es.length+ys.length) (M id).cap):=λ w'=>by
         rw[hlen] at Xw ⊢;exact .ref id 0 _ _ i.size _ _ Xw (Ai _) ⟨_,_,_,rfl⟩ (λ _=>⟨ad,_,rfl,by omega,Kw,by omega,h8⟩)
       by_cases V8:(M id).cap=0
       . have hy0:ys=[]:=A1 (by omega);subst hy0;have Lb:news=[]:=List.eq_nil_of_length_eq_zero (by simpa using DU.size);subst Lb;have Dq:=H7 (P:=P) (w:=w) (ty:=ty) (w':=w) Fq LM Q4 hi (base:=ad) (n:=es.length) (DU.len w) (DU.cells w rfl) Kw (λ ad' _=>rfl) (λ _=>rfl);refine ⟨_,_,_,w,M,hk,hr.change (M':=M) Cs (λ _ _=>rfl) G5 rfl rfl rfl (Ai _) (λ b hb _=>rfl) ⟨FU,by omega,hcm,DK,λ h=>(h V8).elim⟩ (λ b h=>(h.1 V8).elim),TU w,Dq⟩
       . obtain rfl:=h8.resolve_left V8;obtain ⟨LC,row,CS,Hr,CP⟩:=Rb V8;have Auy:es.length*i.size+ys.length*i.size<=row.size:=by rw[Hr,<-Bf];exact Bu _ Kw
         have NG:∀v∈news,v.oneCell'=true:=λ v hv=>by
           obtain ⟨p,hp⟩:=Bc.1 hv;have Ct:=(An.1 hp).1;have hs:=DU.size;have hdiv:p / i.size<ys.length:=Nat.div_lt_of_lt_mul (by rw[Nat.mul_comm];omega);have hy:ys[p / i.size]?=some ys[p / i.size]:=Ax hdiv;have Zr:p % i.size<(ys[p / i.size]).length:=by rw[U7 _ _ hy];exact Nat.mod_lt _ FU
           have:=(DU.data _ _ _ _ hy (Ax Zr)).JN;rwa[Nat.mul_comm,Nat.div_add_mod,Ay,hp] at this
         have I5:=Fo P (M id).Dt (es.length*i.size) e' news 0 row w CS (by have:=DU.size;omega) NG;simp only[Bj] at I5;have Dq:=H7 (P:=P) (w:=w) (ty:=ty) Fq LM Q4 hi (base:=some ⟨(M id).Dt,0*i.size,none⟩) (n:=es.length) (DU.len w) (DU.cells w rfl) Kw
           (λ ad' e3=>by cases e3;rw[Addr.add_lit];simp only[Nat.zero_mul,A2];exact I5) (λ e3=>by cases e3)
         refine ⟨_,_,_,(w.setRow (M id).Dt (row.toList.take (es.length*i.size)++news++row.toList.drop (es.length*i.size+news.length)).toArray),M,hk,hr.change (M':=M) (w':=(w.setRow (M id).Dt (row.toList.take (es.length*i.size)++news++row.toList.drop (es.length*i.size+news.length)).toArray)) Cs (λ _ _=>rfl) G5 rfl rfl rfl (by simp) (λ b hb Dl=>setRow_other w _ b _ (λ e=>Dl _ ho ⟨V8,e⟩)) ?_ (λ b hb=> .inl ⟨_,ho,hb⟩),TU _,Dq⟩;have HJ:∀{x v},PR F w x v->PR F (w.setRow (M id).Dt (row.toList.take (es.length*i.size)++news++row.toList.drop (es.length*i.size+news.length)).toArray) x v:=
           λ h=>h.keep (λ b hb=>setRow_other w _ b _ (λ e=>LC (e ▸ hb))) (λ _ h=>h)
         have p9:(row.toList.take (es.length*i.size)).length=es.length*i.size:=by simp;omega
         refine ⟨FU,by omega,hcm,DK,λ _=>⟨LC,_,CS.set ?_,?_,λ j y p x hy hx=>?_⟩⟩
         . have Ve:=DU.size;have h13:(row.toList.take (es.length*i.size)++news++row.toList.drop (es.length*i.size+news.length)).length=row.size:=by
             simp only[Au,Bi,List.length_drop,Array.length_toList];omega
           exact h13
         . have Ve:=DU.size;have h13:(row.toList.take (es.length*i.size)++news++row.toList.drop (es.length*i.size+news.length)).length=row.size:=by
             simp only[Au,Bi,List.length_drop,Array.length_toList];omega
           exact h13.trans Hr
         . have:=JK (F:=F) (w:=w) (rest:=row.toList.drop (es.length*i.size+news.length)) p9 DU.size Ld U7 (λ j y p x hy hx=>by
             have h9:=CP j y p x hy hx;have Ct:=Jd (An.1 hy).1 (Ai _) (show p<i.size by have:=(An.1 hx).1;have:=Ld j y hy;omega);rw[Ay,AH,if_pos Ct];rwa[As,<-BJ] at h9) DU.data j y p x hy hx
           have JI:=HJ this;rw[As,BU];rwa[Ay] at JI
     ·
       have hyl:0<ys.length:=by omega
       have Aun:RI (M id) i.size es.length 0 es.length (.slice ad es.length (M id).cap):=⟨ad,_,rfl,by omega,h6,by omega,h8⟩;obtain ⟨IQ,holds⟩:=SV (P:=P) hr.heap (.inl ⟨e',ho⟩) Aun;have Axc:(es.drop 0).take es.length=es:=by simp
       rw[Axc] at holds;have Dq:=Hk (P:=P) (w:=w) (ty:=ty) Fq LM Q4 hi hz (base:=ad) (n:=es.length) (cap:=(M id).cap) (DU.len w) (DU.cells w.drew rfl)
         (by have:=holds.cells w.drew rfl;exact this) (by omega) hle hby
       obtain ⟨Ra,hg2⟩:=gr (n:=es.length) (cap:=(M id).cap) hle;have hM:∀j,j≠id->Fh M id ⟨w.heap.size,grownCap w (es.length+ys.length) (M id).cap e',[]⟩ j=M j:=λ j hj=>by simp[Fh,hj]
       have IB:Fh M id ⟨w.heap.size,grownCap w (es.length+ys.length) (M id).cap e',[]⟩ id=⟨w.heap.size,grownCap w (es.length+ys.length) (M id).cap e',[]⟩:=by simp[Fh]
       have G5:CN M (Fh M id ⟨w.heap.size,grownCap w (es.length+ys.length) (M id).cap e',[]⟩) (sg st.hp) (sg (Cw st.hp id (.arr e' i.size (es++ys)))):=by
         refine ⟨λ j hj=>?_,λ j s2 n2 hj=>?_,λ j s2 n2 k2 hj=>?_⟩
         . have e2:j≠id:=λ e2=>by rw[e2,CW ho] at hj;simp[AO.sg] at hj
           rw[C5 Cs,if_neg e2,hM j e2];exact ⟨hj,rfl⟩
         . by_cases e2:j=id
           . subst e2;rw[CW ho] at hj;simp only[AO.sg,Al,Sg.arr.injEq] at hj;obtain ⟨rfl,rfl⟩:=hj;exact ⟨_,Xw,by omega,λ h=>by omega⟩
           . rw[C5 Cs,if_neg e2,hM j e2];exact ⟨n2,hj,Ai _,λ _=>rfl⟩
         . have e2:j≠id:=λ e2=>by rw[e2,CW ho] at hj;simp[AO.sg] at hj
           rw[C5 Cs,if_neg e2,hM j e2];exact ⟨n2,k2,hj,Ai _,Ai _,λ _=>⟨rfl,rfl⟩,λ _=>rfl⟩
       refine ⟨_,_,_,(w.drew.alloc (.cells (IQ.toArray++news.toArray++Builtin.zeroCells z.cells (grownCap w (es.length+ys.length) (M id).cap e' - (es.length+ys.length))) e')),_,hk,hr.change (w':=(w.drew.alloc (.cells (IQ.toArray++news.toArray++Builtin.zeroCells z.cells (grownCap w (es.length+ys.length) (M id).cap e' - (es.length+ys.length))) e'))) Cs hM G5 rfl rfl rfl (by simp) (λ b hb _=>alloc_old w.drew _ b hb) ?_ (λ b hb=> .inr (by have:b=_:=hb.2;rw[this,IB];exact Ai _)),?_,Dq⟩
       . rw[IB];refine ⟨FU,by simp;omega,hg2,DK,λ _=>⟨λ hF=>Nat.lt_irrefl _ (hr.keep.Fl _ hF),_,.of0 (heap_alloc_new w.drew _),?_,λ j y p x hy hx=>?_⟩⟩
         . simp only[Array.size_append,List.size_toArray,Hf,hzl,holds.size,DU.size,<-Nat.add_mul]
           congr 1;omega
         . have:=JK (F:=F) (w:=w) (rest:=(Builtin.zeroCells z.cells (grownCap w (es.length+ys.length) (M id).cap e' - (es.length+ys.length))).toList) holds.size DU.size
             Ld U7 holds.data DU.data j y p x hy hx
           have r7:PR F w x ((IQ.toArray++news.toArray++Builtin.zeroCells z.cells (grownCap w (es.length+ys.length) (M id).cap e' - (es.length+ys.length))).getD (j*i.size+p) undef):=by
             simpa [List.getD,Array.getD_eq_getD_getElem?,<-Array.getElem?_toList] using this
           exact r7.keep (λ b hb=>alloc_old w.drew _ b (hr.keep.Fl b hb)) (λ _ h=>h)
       . rw[hlen] at Xw ⊢;exact .ref id 0 _ _ i.size _ _ Xw (Ai _) ⟨_,_,_,rfl⟩ (λ _=>⟨_,_,rfl,by omega,Ra,by rw[IB];exact A2 _,.inr (by rw[IB];simp)⟩)
 . exact (hnr _ _ _ _ rfl).elim
 . exact h.elim
theorem Z9(hr:Rel c st a w F M){t t2 ty:TypeId}{s x:D}{vs vx:Value}(hs:DR F w M (sg st.hp) s vs)(hx:DR F w M (sg st.hp) x vx){k:D->Hp->Prop}
   (h:b9 P st.hp t s x k):∃d h' v w' M',k d h'/\Rel c {st with hp:=h'} a w' F M'/\DR F w' M' (sg h') d v/\(Builtin.copy_ #[t,t2] ty #[vs,vx]).run P w= .ok v w':=by
 unfold b9 at h;split at h
 case h_2=>exact h.elim
 rename_i _ _ _ e z0 h1;obtain ⟨i1,u1,z1,NJ,Fq,hz1,e1⟩:=Cd h1;simp only[TI.mk.injEq] at e1;obtain rfl:=TK.of_slice e1.2.2.1.symm;split at h
 case h_2=>exact h.elim
 rename_i ti h3;obtain ⟨i,u,z,hi,hu,hz,rfl⟩:=Cd h3;obtain ⟨ys,h',Af6⟩:=SX (P:=P) hr hx h;clear h;obtain ⟨PB,FU,h⟩:=h';simp only at FU PB;obtain ⟨news,DU⟩:=Af6 i.size FU PB;have U7:∀(j:Nat) e,ys[j]?=some e->e.length=i.size:=λ j e he=>PB e (AU he);split at h
 case h_2=>exact h.elim
 rename_i id off len N;split at h
 case h_2=>exact h.elim
 rename_i e' sz es ho;obtain ⟨rfl,hle,rfl,hk⟩:=h;have hob:=hr.heap.obj id _ ho;obtain ⟨_,Qk,hcm,Ld,Rb⟩:=hob;simp only at Ld Qk;cases hs with
 | ref _ _ _ _ OV n2 _ Hs hN2 hv h2=>
   rw[CW ho] at Hs;simp only[AO.sg,Al,Sg.arr.injEq] at Hs;obtain ⟨rfl,rfl⟩:=Hs;obtain ⟨ad,cap,rfl,h5,h6,h7,h8⟩:=h2 rfl;generalize hm:min len ys.length=m at hk;have hml:m<=len:=by omega
   have hmy:m<=ys.length:=by omega
   have htk:ys.take len=ys.take m:=by
     rcases Nat.le_total len ys.length with h9 | h9
     . rw[show m=len by omega]
     . rw[AL h9,AL (by omega)]
   rw[htk] at hk;have Lb:(es.take off++ys.take m++es.drop (off+m)).length=es.length:=by simp;omega
   have Cs:∀j,get (Cw st.hp id (.arr e' i.size (es.take off++ys.take m++es.drop (off+m)))) j=if j=id then some (.arr e' i.size (es.take off++ys.take m++es.drop (off+m))) else get st.hp j:=CM _ _ _
   have Mo:sg (Cw st.hp id (.arr e' i.size (es.take off++ys.take m++es.drop (off+m))))=sg st.hp:=Dw Cs ho (by simp only[AO.sg,Lb]);have G5:CN M M (sg st.hp) (sg (Cw st.hp id (.arr e' i.size (es.take off++ys.take m++es.drop (off+m))))):=by rw[Mo];exact CN.refl _ _
   have DK:∀(j:Nat) x,(es.take off++ys.take m++es.drop (off+m))[j]?=some x->x.length=i.size:=λ j x hj=>by
     have ET:=AU hj;rcases Av.1 ET with h9 | h9
     . rcases Av.1 h9 with JI | JI
       . obtain ⟨q,hq⟩:=Bc.1 (BN JI);exact Ld q x hq
       . exact PB x (BN JI)
     . obtain ⟨q,hq⟩:=Bc.1 (List.mem_of_mem_drop h9);exact Ld q x hq
   have Aci:∀w1:World,(Builtin.lenOf vx).run P w1= .ok ys.length w1:=DU.len;have PF:Nat.min ys.length len=m:=by rw[<-hm];exact Nat.min_comm _ _
   have LN:=DU.pre m hmy w rfl;by_cases V8:m=0
   . subst V8;have Axs:es.take off++ys.take 0++es.drop (off+0)=es:=by simp
     refine ⟨_,_,_,w,M,hk,hr.change (M':=M) Cs (λ _ _=>rfl) G5 rfl rfl rfl (Ai _) (λ b hb _=>rfl) ?_ (λ b hb=> .inl ⟨_,ho,hb⟩),.p (.int .i64 _),?_⟩
     . have JI:=hr.heap.obj id _ ho;rw[<-Mo] at JI;have r7:(AO.arr e' i.size (es.take off++ys.take 0++es.drop (off+0)))=AO.arr e' i.size es:=by rw[Axs]
       exact r7 ▸ JI
     . cases ad<;>simp[Builtin.copy_,run_underlying Fq,Aci,sizeOf,typeInfo,hi,PF,LN,storeCells,goInt]
   . have Asx:(M id).cap≠0:=by omega
     obtain rfl:=h8.resolve_left (by omega);obtain ⟨LC,row,CS,Hr,CP⟩:=Rb Asx;simp only at Hr CP;have Bbj:=DU.size;have Q0:(news.take (m*i.size)).length=m*i.size:=by rw[Bi,Bbj];exact Nat.min_eq_left (Bu _ hmy)
     have Auy:off*i.size+m*i.size<=row.size:=by rw[Hr,<-Bf];exact Bu _ (by omega)
     have NG:∀v∈news.take (m*i.size),v.oneCell'=true:=λ v hv=>by
       obtain ⟨p,hp⟩:=Bc.1 (BN hv);have Ct:=(An.1 hp).1;have hdiv:p / i.size<ys.length:=Nat.div_lt_of_lt_mul (by rw[Nat.mul_comm];omega);have hy:ys[p / i.size]?=some ys[p / i.size]:=Ax hdiv;have Zr:p % i.size<(ys[p / i.size]).length:=by rw[U7 _ _ hy];exact Nat.mod_lt _ FU
       have:=(DU.data _ _ _ _ hy (Ax Zr)).JN;rwa[Nat.mul_comm,Nat.div_add_mod,Ay,hp] at this
     have I5:=Fo P (M id).Dt (off*i.size) e' (news.take (m*i.size)) 0 row w CS (by rw[Q0];omega) NG;simp only[Bj,Q0] at I5;have HJ:∀{x v},PR F w x v->PR F (w.setRow (M id).Dt (row.toList.take (off*i.size)++news.take (m*i.size)++row.toList.drop (off*i.size+m*i.size)).toArray) x v:=
       λ h=>h.keep (λ b hb=>setRow_other w _ b _ (λ e=>LC (e ▸ hb))) (λ _ h=>h)
     refine ⟨_,_,_,(w.setRow (M id).Dt (row.toList.take (off*i.size)++news.take (m*i.size)++row.toList.drop (off*i.size+m*i.size)).toArray),M,hk,
       hr.change (M':=M) (w':=(w.setRow (M id).Dt (row.toList.take (off*i.size)++news.take (m*i.size)++row.toList.drop (off*i.size+m*i.size)).toArray)) Cs (λ _ _=>rfl) G5 rfl rfl rfl (by simp) (λ b hb Dl=>setRow_other w _ b _ (λ e=>Dl _ ho ⟨Asx,e⟩)) ?_ (λ b hb=> .inl ⟨_,ho,hb⟩),.p (.int .i64 _),?_⟩
     . have p9:(row.toList.take (off*i.size)).length=off*i.size:=by simp;omega
       refine ⟨FU,by omega,hcm,DK,λ _=>⟨LC,_,CS.set ?_,?_,λ j y p x hy hx=>?_⟩⟩
       . have h13:(row.toList.take (off*i.size)++news.take (m*i.size)++row.toList.drop (off*i.size+m*i.size)).length=row.size:=by
           simp only[Au,p9,Q0,List.length_drop,Array.length_toList];omega
         exact h13
       . have h13:(row.toList.take (off*i.size)++news.take (m*i.size)++row.toList.drop (off*i.size+m*i.size)).length=row.size:=by
           simp only[Au,p9,Q0,List.length_drop,Array.length_toList];omega
         exact h13.trans Hr
       . have hp:p<i.size:=by have:=(An.1 hx).1;have:=DK j y hy;omega
         have h20:PR F w x ((row.toList.take (off*i.size)++news.take (m*i.size)++row.toList.drop (off*i.size+m*i.size)).getD (j*i.size+p) undef):=by
           rw[Ay];rcases Nat.lt_or_ge j off with h9 | h9
           . have JI:j*i.size+p<off*i.size:=Jd h9 (Ai _) hp;have Ye:es[j]?=some y:=by
               rw[AW (by simp;omega),AW (by simp;omega),AH,if_pos h9] at hy;exact hy
             rw[AW (by rw[Au,p9];omega),AW (by rw[p9];exact JI),AH,if_pos JI];have:=CP j y p x Ye hx;rwa[As,<-BJ] at this
           . rcases Nat.lt_or_ge j (off+m) with r7 | r7
             . obtain ⟨q,rfl⟩:∃q,j=off+q:=⟨j - off,by omega⟩;have hq:q<m:=by omega
               have JI:q*i.size+p<m*i.size:=Jd hq (Ai _) hp;have Ye:ys[q]?=some y:=by
                 rw[AW (by simp;omega),Bg (by simp;omega),AH] at hy;have e9:off+q - (es.take off).length=q:=by simp;omega
                 rw[e9,if_pos hq] at hy;exact hy
               have e8:(off+q)*i.size+p=off*i.size+(q*i.size+p):=by rw[Bf];omega
               rw[e8,AW (by rw[Au,p9,Q0];omega),Bg (by rw[p9];omega),p9,A6,AH,if_pos JI];have:=DU.data q y p x Ye hx;rwa[Ay] at this
             . obtain ⟨q,rfl⟩:∃q,j=off+m+q:=⟨j - (off+m),by omega⟩;have Ye:es[off+m+q]?=some y:=by
                 have e9:(es.take off++ys.take m).length=off+m:=by simp;omega
                 rw[Bg (by rw[e9];omega),e9,A6,AV] at hy;exact hy
               have e8:(off+m+q)*i.size+p=off*i.size+m*i.size+(q*i.size+p):=by rw[Bf,Bf];omega
               rw[e8,Bg (by rw[Au,p9,Q0];omega),Au,p9,Q0,A6,AV,<-e8];have:=CP _ y p x Ye hx;rwa[As,<-BJ] at this
         have JI:=HJ h20;rw[As,BU];rwa[Ay] at JI
     . simp[Builtin.copy_,run_underlying Fq,Aci,sizeOf,typeInfo,hi,PF,LN,I5,goInt]
theorem Adn{h:Hp}{x:D}{k:List (List Pd)->Prop}(hh:LZ h x k):∃ys,k ys:=by
 unfold LZ at hh;split at hh
 . exact ⟨_,hh⟩
 . exact ⟨_,hh⟩
 . exact ⟨_,hh⟩
 . split at hh
   . exact ⟨_,hh.2⟩
   . exact ⟨_,hh.2⟩
   . exact hh.elim
 . exact hh.elim
theorem w9{h h':Hp}{x:D}{k k':List (List Pd)->Prop}(hg:∀j o,get h j=some o->(∃t sz es,o= .arr t sz es)∨(∃sz es,o= .LG sz es)->get h' j=some o)(hk:∀ys,k ys->k' ys)(hh:LZ h x k):LZ h' x k':=by
 unfold LZ at hh ⊢;split at hh
 . exact hk _ hh
 . exact hk _ hh
 . exact hk _ hh
 . split at hh
   . rename_i h1;rw[hg _ _ h1 (.inl ⟨_,_,_,rfl⟩)];exact ⟨hh.1,hk _ hh.2⟩
   . rename_i h1;rw[hg _ _ h1 (.inr ⟨_,_,rfl⟩)];exact ⟨hh.1,hk _ hh.2⟩
   . exact hh.elim
 . exact hh.elim
theorem Abi(hr:Rel c st a w F M){q t t2 ty:TypeId}{s x:D}{vs vx:Value}(hs:DR F w M (sg st.hp) s vs)(hx:DR F w M (sg st.hp) x vx){k:D->Hp->Prop}
   (h:n7 P st.hp q t t2 s x k):∃d h' v w' M',k d h'/\Rel c {st with hp:=h'} a w' F M'/\DR F w' M' (sg h') d v/\(Builtin.append_ #[t,t2] ty #[vs,vx]).run P w= .ok v w':=by
 by_cases hnr:∀id i len kk,s≠ .nr id i len kk
 . exact Sd hr hs hx hnr h
 . have:∃id i len kk,s= .nr id i len kk:=by
     cases s with
     | nr id i len kk=>exact ⟨id,i,len,kk,rfl⟩
     | _=>exact (hnr (λ _ _ _ _=>by simp)).elim
   obtain ⟨id,i,len,kk,rfl⟩:=this;have Al1:∃t3 e' sz k2 rows,get st.hp id=some (.Dj t3 e' sz k2 rows none)/\kk=k2/\len=(rows.getD i []).length/\i<rows.length/\get st.hp q=none:=by
     have h0:=h;unfold n7 at h0;split at h0
     case h_2=>exact h0.elim
     obtain ⟨_,h0⟩:=h0;split at h0
     case h_2=>exact h0.elim
     obtain ⟨ys,_,_,_,h1⟩:=Adn h0;simp only at h1;split at h1
     . rename_i t3 e' sz k2 rows hg;exact ⟨t3,e',sz,k2,rows,hg,h1.1.2.2⟩
     . exact h1.elim
   obtain ⟨t3,e',sz,k2,rows,hg,rfl,rfl,hi,hq⟩:=Al1;have hir:rows[i]?=some (rows.getD i []):=by simp[List.getD,hi]
   obtain ⟨bc,r6,G5,GG⟩:=hr.Bar hg hir hq;generalize hM1:(λ j=>if j=q then (⟨bc.1,bc.2,[]⟩:Mb) else if j=id then {(M id) with xs:=(M id).xs.set i (0,0)} else M j)=M1 at G5 GG;have Zp:q≠id:=λ e=>by rw[e,hg] at hq;cases hq
   have U9:sg ((q,AO.arr e' sz (rows.getD i []))::Cw st.hp id (.Dj t3 e' sz (kk+1) rows (some i))) q=some (.arr sz (rows.getD i []).length):=by simp[sg,Cp,AO.sg]
   have LB:DR F w M1 (sg ((q,AO.arr e' sz (rows.getD i []))::Cw st.hp id (.Dj t3 e' sz (kk+1) rows (some i)))) (.ref q 0 (rows.getD i []).length (rows.getD i []).length) vs:=by
     cases hs with
     | nr _ _ _ _ OV m k3 _ Mp hN hv hl=>
       have p8:=CW hg;rw[Mp] at p8;simp only[AO.sg,Al,Sg.Dj.injEq] at p8;obtain ⟨_,_,rfl⟩:=p8;obtain ⟨bc2,g1,g2,ad,g3,g4⟩:=hl rfl;rw[r6] at g1;cases g1;refine .ref q 0 _ _ sz _ vs U9 (Ai _) ⟨_,_,_,g3⟩ (λ _=>⟨ad,bc.2,g3,by omega,g2,by rw[<-hM1];simp,?_⟩);rw[<-hM1]
       simpa using g4
   have IH:=hx.keep (w':=w) (λ _ _=>rfl) (λ _ h=>h) G5;have Kx:get ((q,AO.arr e' sz (rows.getD i []))::Cw st.hp id (.Dj t3 e' sz (kk+1) rows (some i))) q=some (.arr e' sz (rows.getD i [])):=by simp[Cp]
   have Axi:∀es,Cw ((q,AO.arr e' sz (rows.getD i []))::Cw st.hp id (.Dj t3 e' sz (kk+1) rows (some i))) q (.arr e' sz es)=(q,.arr e' sz es)::Cw st.hp id (.Dj t3 e' sz (kk+1) rows (some i)):=λ es=>by simp[Cw]
   refine Sd (s:= .ref q 0 (rows.getD i []).length (rows.getD i []).length) (q:=q) GG LB IH (λ _ _ _ _=>by simp) ?_;unfold n7 at h ⊢;split at h
   case h_2=>exact h.elim
   rename_i ht1 ht2;(try simp only[ht1,ht2]);obtain ⟨JF,h⟩:=h;refine ⟨JF,?_⟩;split at h
   case h_2=>exact h.elim
   refine w9 (λ j o hj ho=>?_) (λ ys PB=>?_) h
   . have h1:j≠q:=λ e=>by rw[e,hq] at hj;cases hj
     have h2:j≠id:=λ e=>by
       rw[e,hg] at hj;cases hj;rcases ho with ⟨_,_,_,h3⟩ | ⟨_,_,h3⟩<;>cases h3
     rw[Cp,if_neg (Bm h1),CM,if_neg h2];exact hj
   . obtain ⟨y1,y2,y3,PB⟩:=PB;simp only at PB;rw[hg] at PB;obtain ⟨⟨y4,y5,_⟩,y6,y7,y8⟩:=PB;refine ⟨y1,y2,y3,?_⟩;simp only[Kx];subst y4;refine ⟨trivial,trivial,trivial,rfl,y5,y6,y7,?_⟩;rw[Axi];exact y8
end
end Go.Am
namespace Go.Am
open Go
section
variable {P:Program} {c:Ctx} {st:St} {a:Act} {w:World} {F:Nat->Prop} {M:Nat->Mb}
theorem Ajm{d:D}{k:Pd->Hp->Prop}(h:Kl [] d k):∃x,k x []/\∀(F:Nat->Prop) (w:World) (M:Nat->Mb) (s:Nat->Option Sg) v,DR F w M s d v->PR F w x v:=by
 cases d with
 | p x=>exact ⟨x,h,λ F w M s v hd=>by cases hd with | p hx=>exact hx⟩
 | cl es=>exact ⟨_,h,λ F w M s v hd=>by cases hd with | cl _ ad hx _=>exact hx⟩
 | cz es=>exact ⟨_,h,λ F w M s v hd=>by cases hd with | cz _ ad hx=>exact hx⟩
 | _=>simp[Kl,get] at h
theorem VG:∀{ds:List D} {k:List Pd->Hp->Prop},HH [] ds k->∃xs,k xs []/\xs.length=ds.length/\
   ∀(F:Nat->Prop) (w:World) (M:Nat->Mb) (s:Nat->Option Sg) (vs:List Value),IW F w M s ds vs->∀(i:Nat) x,xs[i]?=some x->PR F w x (vs.getD i undef)
 | [],k,h=>⟨[],h,rfl,λ _ _ _ _ _ _ i x hx=>by simp at hx⟩
 | d::ds,k,h=>by
   obtain ⟨x,h1,h2⟩:=Ajm h;obtain ⟨xs,h3,h4,h5⟩:=VG h1;refine ⟨x::xs,h3,by simp[h4],λ F w M s vs hd i y hy=>?_⟩;cases vs with
   | nil=>have:=hd.1;simp at this
   | cons v vs=>
     cases i with
     | zero=>
       simp only[AK,Al] at hy;subst hy;have:=hd.2 0 d rfl;exact h2 F w M s _ (by simpa [List.getD] using this)
     | succ i=>
       simp only[List.getElem?_cons_succ] at hy;have:=h5 F w M s vs ⟨by have:=hd.1;simpa using this,λ i e he=>by have:=hd.2 (i+1) e (by simpa using he);simpa [List.getD] using this⟩ i y hy
       simpa [List.getD] using this
def Az9(P:Program)(c:Ctx)(st:St)(a:Act)(w:World)(F:Nat->Prop)(o:Oper)(k:D->Hp->Prop):Prop:=
 ∃d h' v w' F' M',k d h'/\Rel c {st with hp:=h'} a w' F' M'/\(∀b,F b->F' b)/\DR F' w' M' (sg h') d v/\
   ((execOp a.eval o).run P w= .ok (.value v) w'∨(v=undef/\(execOp a.eval o).run P w= .ok .skip w'))
theorem Adq(hp:Hp)(id:Nat)(o o':AO):Cw (Cw hp id o) id o'=Cw hp id o':=by
 induction hp with
 | nil=>simp[Cw]
 | cons p r ih=>
   obtain ⟨j,x⟩:=p;by_cases h:j=id
   . subst h;simp[Cw]
   . simp[Cw,h,ih]
theorem Tm(hr:Rel c st a w F M){id i n:Nat}{d:D}{vx vd:Value}(hx:DR F w M (sg st.hp) (.LL id i n) vx)(hd:DR F w M (sg st.hp) d vd){k:Hp->Prop}(h:Md st.hp id i n d k):
   ∃h' w' M' ad,k h'/\Rel c {st with hp:=h'} a w' F M'/\vx= .pointer (some ad)/\(storeCells ad vd.cells.toList).run P w= .ok () w':=by
 unfold Md at h;split at h
 case h_2=>exact h.elim
 rename_i q off len N;split at h
 case h_2=>exact h.elim
 rename_i e2 OV es t e sz k2 rows hole hq hg;obtain ⟨⟨rfl,rfl,rfl,rfl,rfl,rfl,hh⟩,hk⟩:=h;have Zp:q≠id:=λ e=>by rw[e,hg] at hq;cases hq
 cases hx with
 | LL _ _ _ sz1 m1 k1 b hs hN hi hb=>
   rw[CW hg] at hs;simp only[AO.sg,Al,Sg.Dj.injEq] at hs;obtain ⟨rfl,rfl,rfl⟩:=hs;obtain ⟨rfl,Ju⟩:=hb rfl;cases hd with
   | ref _ _ _ _ sz3 n3 _ Mp hN2 RX Sp=>
     rw[CW hq] at Mp;simp only[AO.sg,Al,Sg.arr.injEq] at Mp;obtain ⟨rfl,rfl⟩:=Mp;obtain ⟨ad,cp,rfl,_,Qk,hoc,hor⟩:=Sp rfl;rw[A2] at hoc;subst hoc;have CP:(Value.slice ad es.length (M q).cap).cells.toList=[Value.slice ad es.length (M q).cap]:=rfl;rw[CP];have fin:∀{hp1:Hp} {M1:Nat->Mb} {k1:Nat},Rel c {st with hp:=hp1} a w F M1->get hp1 id=some (.Dj t e2 OV k1 rows (some i))->get hp1 q=some (.arr e2 OV es)->M1 q=M q->(M1 id).Dt=(M id).Dt->
         ∃w' M',Rel c {st with hp:=Cw (Cw hp1 id (.Dj t e2 OV (k1+1) (rows.set i es) none)) q (.Fi (IK (.arr OV (es.length+1))))} a w' F M'/\(storeCells ⟨(M id).Dt,i,none⟩ [Value.slice ad es.length (M q).cap]).run P w= .ok () w':=by
       intro hp1 M1 k1 GG Ra UI IB J6;obtain ⟨w',h1,h2,row,h3,h4,h5⟩:=GG.Aiu (P:=P) Ra hi (Value.slice ad es.length (M q).cap) rfl;have h6:=h2.fill Ra hi UI ⟨row,h3,ad,by rw[IB];exact h5,by rw[IB];simpa using hor⟩;rw[J6] at h1;exact ⟨w',_,h6,h1⟩
     rcases hh with rfl | rfl
     . have GG:=hr.drop hg hi;obtain ⟨w',M',h1,h2⟩:=fin GG (by rw[CM,if_pos rfl]) (by rw[CM,if_neg Zp];exact hq) (by simp[Zp]) (by simp);rw[Adq] at h1;exact ⟨_,w',M',_,hk,h1,rfl,h2⟩
     . obtain ⟨w',M',h1,h2⟩:=fin hr hg hq rfl rfl;exact ⟨_,w',M',_,hk,h1,rfl,h2⟩
theorem WX(hr:Rel c st a w F M){t:TypeId}{x d:D}{vx vd:Value}(hx:DR F w M (sg st.hp) x vx)(hd:DR F w M (sg st.hp) d vd){k:Hp->Prop}(h:SU P st.hp t x d k):
   ∃h' w' F' M',k h'/\Rel c {st with hp:=h'} a w' F' M'/\(∀b,F b->F' b)/\(Instr.storeAt t vx vd).run P w= .ok () w':=by
 unfold SU at h;split at h
 case h_2=>exact h.elim
 rename_i ti ht;obtain ⟨i,u,z,hi,hu,hz,rfl⟩:=Cd ht;split at h
 case h_2=>exact h.elim
 rename_i cs I5;obtain ⟨hcs,h1,Yj⟩:=KU hd I5;obtain ⟨hlen,h⟩:=h;simp only at hlen;have hvs:vd.cells.size=i.size:=by have:=Yj.1;simp at this;omega
 have run:∀{ad w'},vx= .pointer (some ad)->(storeCells ad vd.cells.toList).run P w= .ok () w'->(Instr.storeAt t vx vd).run P w= .ok () w':=by
   rintro ad w' rfl h3;simp[Instr.storeAt,Instr.sureAddr,storeVar,Dh hi,hvs,h3]
 split at h
 . rename_i id off;split at h
   case h_2=>exact h.elim
   rename_i bs ho;obtain ⟨hle,hk⟩:=h;cases hx with
   | ptr _ _ hs=>
     obtain ⟨w',h3,h4⟩:=hr.YF (P:=P) ho Yj h1 hle;exact ⟨_,w',F,M,hk,h4,λ _ h=>h,run rfl h3⟩
 . rename_i id j q N;obtain ⟨xs,h',F',hk',Kd,hF',hs',hl',HE⟩:=L8 cs vd.cells.toList hr Yj h;split at hk'
   case h_2=>exact hk'.elim
   rename_i e sz es ho;obtain ⟨hN,hq,hk⟩:=hk';cases hx with
   | ea _ _ _ _ OV n2 _ hs hN2 hv h2=>
     have Nf:=CW ho;rw[hs',hs] at Nf;simp only[AO.sg,Al,Sg.arr.injEq] at Nf;obtain ⟨rfl,rfl⟩:=Nf;obtain ⟨rfl,Ct⟩:=h2 hN;obtain ⟨w',h3,h4⟩:=Kd.Aiv (P:=P) ho Ct hl' HE hq;exact ⟨_,w',F',M,hk,h4,hF',run rfl h3⟩
 . obtain ⟨h',w',M',ad,hk,Kd,rfl,h3⟩:=Tm (P:=P) hr hx hd h;exact ⟨h',w',F,M',hk,Kd,λ _ h=>h,run rfl h3⟩
 . exact h.elim
theorem Afm(hr:Rel c st a w F M)(place:Nat->Option (Nat×Nat)){parts:List (Nat×Operand)}{n:Nat}{vs:Array Value}(hn:vs.size=n){cs:List D}
   (h:GM place (List.replicate n .bad) (parts.map λ q=>(q.1,ev st q.2))=some cs):
   ∃vs',Instr.fill place vs (parts.map λ q=>(q.1,a.eval q.2))=some vs'/\IW F w M (sg st.hp) cs vs'.toList:=
 OC hr place parts _ vs cs ⟨by simp[hn],λ i d hd=>by
   rw[Bb] at hd;split at hd
   . cases hd;exact .bad _
   . cases hd⟩ h
theorem Atw(t:TypeId)(cs:List D):O5 (npT t cs) t=t:=by
 unfold O5 npT;split<;>split<;>simp_all
theorem Pk{v:Value}(h:IS v= .cl []):v= .slice none 0 0:=by
 unfold IS at h;split at h<;>first | rfl | cases h
theorem YX:∀(l:List Value) (j:Nat),(Nz l)[j]?=(l[j]?).map IS
 | [],j=>by simp[Nz]
 | v::r,0=>by simp[Nz]
 | v::r,j+1=>by simp[Nz,YX r j]
theorem Ahm(z:Value){j:Nat}(h:(IS z).cells[j]?=some (.cl [])):z.cells.getD j undef= .slice none 0 0:=by
 have one:∀v:Value,[IS v][j]?=some (.cl [])->(#[v]:Array Value).getD j undef= .slice none 0 0:=by
   intro v hv;cases j with
   | zero=>simp only[AK,Al] at hv;rw[Pk hv];rfl
   | succ j=>simp at hv
 cases z with
 | agg cs=>
   simp only[IS,D.cells] at h;rw[YX] at h;cases hc:cs.toList[j]? with
   | none=>rw[hc] at h;cases h
   | some v=>
     rw[hc] at h;simp only[Bn,Al] at h;rw[Pk h] at hc;simp only[Value.cells];rw[BJ] at hc;rw[As,hc];rfl
 | slice a l c=>
   refine one _ ?_;have:(IS (.slice a l c)).cells=[IS (.slice a l c)]:=by
     unfold IS;split<;>first | rfl | (rename_i h0;cases h0)
   rwa[this] at h
 | pointer a=>
   refine one _ ?_;cases a<;>exact h
 | _=>exact one _ h
theorem W4{kk:KK}{key:Pd}(hf:kk.fit key=true):Instr.sameBits 10000 key.val key.val=true:=by
 cases kk<;>cases key<;>simp[KK.fit] at hf<;>simp[Instr.sameBits,Pd.val,MapKept.bytes_beq]
theorem Rel.Aty(hr:Rel c st a w F M){q:Nat}(hn:get st.hp q=none):
   Rel c {st with hp:=(q,.mp [])::st.hp} a (w.alloc (.map #[] 0)) F (Fh M q ⟨w.heap.size,0,[]⟩)/\
   DR F (w.alloc (.map #[] 0)) (Fh M q ⟨w.heap.size,0,[]⟩) (sg ((q,.mp [])::st.hp)) (.mv q) (.map (some w.heap.size)):=by
 have Cs:=JQ st.hp q (.mp []);have hM:∀j,j≠q->Fh M q ⟨w.heap.size,0,[]⟩ j=M j:=λ j hj=>by simp[Fh,hj]
 have IB:Fh M q ⟨w.heap.size,0,[]⟩ q=⟨w.heap.size,0,[]⟩:=by simp[Fh]
 have G5:=FV Cs hM hn;have hold:∀b,b<w.heap.size->(w.alloc (.map #[] 0)).heap[b]?=w.heap[b]?:=λ b hb=>alloc_old w _ b hb;refine ⟨hr.change Cs hM G5 rfl rfl rfl (by simp) (λ b hb _=>hold b hb) ?_ (λ b hb=> .inr (by have:b=_:=hb;rw[this,IB];exact Ai _)),?_⟩
 . rw[IB];refine ⟨λ hF=>Nat.lt_irrefl _ (hr.keep.Fl _ hF),⟨#[],0,heap_alloc_new w _,rfl⟩,by simp⟩
 . have:=DR.mv (F:=F) (w:=w.alloc (.map #[] 0)) (M:=Fh M q ⟨w.heap.size,0,[]⟩) (s:=sg ((q,.mp [])::st.hp)) q (by rw[C5 Cs];simp[AO.sg]);rwa[IB] at this
theorem Xm(hr:Rel c st a w F M){t:TypeId}{m i x:D}{k:Hp->Prop}(h:Tt P st.hp t m i x k){vm vi vx:Value}(hm:DR F w M (sg st.hp) m vm)(hi:DR F w M (sg st.hp) i vi)(hx:DR F w M (sg st.hp) x vx):
   ∃h' w',k h'/\Rel c {st with hp:=h'} a w' F M/\(Instr.mapUpdate t vm vi vx).run P w= .ok () w':=by
 unfold Tt at h;split at h
 case h_2=>exact h.elim
 rename_i _ _ _ _ kk z id key y hmo;obtain ⟨kt,e,d,ii,zv,hu,hk,hd,EP,hz,rfl,hzf⟩:=K4 hmo;split at h
 case h_2=>exact h.elim
 rename_i l hg;obtain ⟨⟨hf,NL,hyf⟩,hkk⟩:=h;obtain ⟨LC,⟨es,clock,hb,Ld⟩,OW⟩:=hr.heap.obj id _ hg;have Cs:∀j,get (Cw st.hp id (.mp (Kq key y l))) j=if j=id then some (.mp (Kq key y l)) else get st.hp j:=CM _ _ _
 have Hs:=Dw Cs hg rfl;cases hm with
 | mv _ hs=>
   cases hi with
   | p hi=>
     have hvi:vi=key.val:=by cases hi<;>first | rfl | (cases kk<;>simp[KK.fit] at hf)
     subst hvi;cases hx with
     | p hx=>
       have Nd:vx=y.val:=by cases hx<;>first | rfl | simp[Pd.flat] at hyf
       subst Nd;have hc:∀b,(Instr.checkKey b 10000 kt key.val).run P w= .ok () w:=λ b=>MapKept.run_checkKey hk (QX hd hf) b 9999;have hch:∀(NM:Array MapEntry) (XW:Nat),NM.toList.map (λ e=>(e.key,e.val))=(Kq key y l).map (λ p=>(p.1.val,p.2.val))->(∀p∈Kq key y l,p.2.flat=true)->
           Rel c {st with hp:=Cw st.hp id (.mp (Kq key y l))} a {w with heap:=w.heap.setIfInBounds (M id).Dt (.map NM XW)} F M:=by
         intro NM XW h1 h2;have EZ:=MapKept.heap_set (o':= .map NM XW) hb;refine hr.change (M':=M) Cs (λ _ _=>rfl) (by rw[Hs];exact CN.refl _ _) rfl rfl rfl (by simp) (λ b Yk Dl=>EZ.2 b (Dl _ hg)) ⟨LC,⟨NM,XW,EZ.1,h1⟩,h2⟩ (λ b Yk=> .inl ⟨_,hg,Yk⟩)
       have Aqs:∀p∈Kq key y l,p.2.flat=true:=by
         clear hch Cs Hs hkk Ld hg NL
         induction l with
         | nil=>intro p hp;simp[Kq] at hp;subst hp;exact hyf
         | cons q r ih=>
           intro p hp;simp only[Kq] at hp;split at hp
           . rcases AF.1 hp with rfl | hp
             . exact hyf
             . exact OW p (by simp[hp])
           . rcases AF.1 hp with rfl | hp
             . exact OW _ (by simp)
             . exact ih (λ p hp=>OW p (by simp[hp])) p hp
       rcases Mg hd hf es.toList l 0 Ld NL with ⟨v,j,g1,g2,g3,⟨e0,g4,g5⟩,g6⟩ | ⟨g1,g2,g3⟩
       . refine ⟨_,_,hkk,hch (es.modify j λ e=>{e with key:=key.val,val:=y.val}) clock (by rw[Array.toList_modify];exact g6 y) Aqs,?_⟩;have h4:es[j]?=some e0:=by simpa using g4
         simp[Instr.mapUpdate,run_underlying hu,MapKept.run_getObj_map hb,hc,MapKept.run_findKey hk g2,Result.andThen,h4,g5,Instr.keyThatStays,W4 hf,MapKept.run_setObj_map _ hb]
       . refine ⟨_,_,hkk,hch (es.push {key:=key.val,val:=y.val,born:=clock}) (clock+1) (by simp[g3 y,Ld]) Aqs,?_⟩;simp[Instr.mapUpdate,run_underlying hu,MapKept.run_getObj_map hb,hc,MapKept.run_findKey hk g2,Result.andThen,MapKept.run_setObj_map _ hb]
theorem Gm(hr:Rel c st a w F M){o:Oper}{q:Nat}{k:D->Hp->Prop}(h:mOp P st q o.op k):Az9 P c st a w F o k:=by
 unfold mOp at h;split at h
 ·
   rename_i t ho;split at h
   case h_2=>exact h.elim
   rename_i ti ht;obtain ⟨i,u,z,hi,hu,hz,rfl⟩:=Cd ht;split at h
   case h_2=>exact h.elim
   rename_i cs I5;obtain ⟨hcs,h1,Yj⟩:=KU (Km F w M (sg st.hp) z) I5;obtain ⟨hn,hk⟩:=h;obtain ⟨h2,h3⟩:=hr.Ajs t (npT t cs) (Atw t cs) hn Yj h1 (λ _ _ j hj=>Ahm z (hcs ▸ hj));refine ⟨_,_,_,_,F,_,hk,h2,λ _ h=>h,h3,.inl ?_⟩;simp[execOp,ho,Instr.alloc,Jc hi hz,newVar,newRow]
 ·
   rename_i t x ho;split at h
   case h_2=>exact h.elim
   rename_i cs I5;obtain ⟨hcs,h1,Yj⟩:=KU (Ci hr x) I5;obtain ⟨hn,hk⟩:=h;obtain ⟨h2,h3⟩:=hr.Ajs t 0 rfl hn Yj h1 (Exa.zero _ _);refine ⟨_,_,_,_,F,_,hk,h2,λ _ h=>h,h3,.inl ?_⟩;simp[execOp,ho,Instr.box,newVar,newRow]
 ·
   rename_i t x y ho;obtain ⟨h',w',F',M',hk,h2,hF,h3⟩:=WX hr (Ci hr x) (Ci hr y) h;refine ⟨_,h',undef,w',F',M',hk,h2,hF,.Dg [] #[] rfl (λ i d hd=>by simp at hd),.inr ⟨rfl,?_⟩⟩;simp[execOp,ho,h3]
 ·
   rename_i t ho;obtain ⟨hn,hk⟩:=h;obtain ⟨h2,h3⟩:=hr.Aty hn;refine ⟨_,_,_,_,F,_,hk,h2,λ _ h=>h,h3,.inl ?_⟩;simp[execOp,ho,Instr.makeMap]
 ·
   rename_i t m i x ho;obtain ⟨h',w',hk,h2,h3⟩:=Xm hr h (Ci hr m) (Ci hr i) (Ci hr x);refine ⟨_,h',undef,w',F,M,hk,h2,λ _ h=>h,.Dg [] #[] rfl (λ i d hd=>by simp at hd),.inr ⟨rfl,?_⟩⟩;simp[execOp,ho,h3]
 ·
   rename_i t n parts ho;split at h
   case h_2=>exact h.elim
   rename_i _ _ e z0 ht;obtain ⟨i1,u1,z1,NJ,Fq,hz1,e1⟩:=Cd ht;simp only[TI.mk.injEq] at e1;obtain rfl:=TK.of_slice e1.2.2.1.symm;split at h
   case h_2=>exact h.elim
   rename_i ti hte;obtain ⟨i,u,z,hi,hu,hz,rfl⟩:=Cd hte;obtain ⟨FU,TQ,h⟩:=h;simp only at FU TQ h;split at h
   case h_2=>exact h.elim
   rename_i cs hf;obtain ⟨vs',hf',Yj⟩:=Afm hr _ (vs:=(Array.range (n*i.size)).map ((if n*i.size=0 then #[] else z.cells)[· % (if n*i.size=0 then #[] else z.cells).size]!)) (by simp) hf;obtain ⟨xs,h',F',⟨hn,hk⟩,Kd,hF',hs',hl',HE⟩:=L8 cs vs'.toList hr Yj h;have OW:cs.length=n*i.size:=by
     have:∀(ps:List (Nat×D)) (c0 c1:List D),GM (λ j=>some (j*i.size,i.size)) c0 ps=some c1->c1.length=c0.length:=by
       intro ps
       induction ps with
       | nil=>intro c0 c1 h;simp[GM] at h;rw[h]
       | cons p ps ih=>
         intro c0 c1 h;obtain ⟨j,d⟩:=p;simp only[GM] at h;split at h
         . rename_i hc;rw[ih _ _ h];simp;omega
         . cases h
     have:=this _ _ _ hf
     simpa using this
   have Q0:vs'.size=n*i.size:=by have:=Yj.1;simp at this;omega
   have Zm:xs.length=n*i.size:=by simp at hl';omega
   obtain ⟨h2,h3⟩:=Kd.Xe (q:=q) (cap:=n) (sz:=i.size) (es:=chunk i.size n xs) (e:=e) (vs:=vs') (w':=w.alloc (.cells vs' e)) hn rfl rfl rfl rfl FU (by rw[IV];exact Ai _)
     (by unfold maxLen;have:n<=n*i.size:=Nat.le_mul_of_pos_right _ FU;omega) (λ j x hj=>by
       rw[Nr] at hj;split at hj
       . rename_i Ct;cases hj;have:=Jd (j:=i.size - 1) Ct (Ai _) (show i.size - 1<i.size by omega);simp;omega
       . cases hj) Q0 (λ j x p y hj hp=>by
       rw[Nr] at hj;split at hj
       . cases hj;rw[AH] at hp;split at hp
         . rw[AV] at hp;have:=HE _ y hp;rwa[Ay,BJ,<-As] at this
         . cases hp
       . cases hj)
   rw[IV] at h3;refine ⟨_,_,_,_,F',_,hk,h2,hF',h3,.inl ?_⟩;have hpm:(parts.map λ (i,x)=>(i,a.eval x)).toList=parts.toList.map λ q=>(q.1,a.eval q.2):=by simp
   have Lb:¬(16777216<n*i.size):=by omega
   simp only[execOp,ho,Instr.buildSlice,Sem.run_bind,run_underlying Fq,Result.andThen_ok,Dh hi];by_cases h0:n*i.size=0
   . have e0:∀g:Nat->Value,(Array.range 0).map g=#[]:=λ g=>by simp[Array.range_zero']
     simp only[h0,AM,e0] at hf' ⊢;simp[hpm,hf',newRow,e0]
   . simp only[h0,A9] at hf' ⊢;simp[Lb,Jc hi hz,hpm,hf',newRow]
 ·
   rename_i t l m ho;split at h
   case h_2=>exact h.elim
   rename_i _ _ e z0 k1 l' k2 m' ht hl hm;obtain ⟨i1,u1,z1,NJ,Fq,hz1,e1⟩:=Cd ht;simp only[TI.mk.injEq] at e1;obtain rfl:=TK.of_slice e1.2.2.1.symm;split at h
   case h_2=>exact h.elim
   rename_i ti hte;obtain ⟨i,u,z,hi,hu,hz,rfl⟩:=Cd hte;obtain ⟨FU,hn,⟨h0,hlm,hby,hle⟩,hzl,h⟩:=h;simp only at FU hby hzl;obtain ⟨zs,hk,hzs,hzd⟩:=VG h;have hl':=Ci hr l;have r4:=Ci hr m;rw[hl] at hl';rw[hm] at r4;generalize Q0:a.eval l=vl at hl';generalize hvm:a.eval m=vm at r4;cases hl' with | p hl'=>cases hl';cases r4 with | p r4=>
     cases r4;have Dq:=run_make (P:=P) w t e i z Fq hi hz k1 k2 l' m' h0 hlm (by rw[Int.mul_comm];omega) (by omega);rw[HV] at hzl;have hz0:IW F w M (sg st.hp) (IS z).cells z.cells.toList:=by
       have:(IS z).cells.all D.one=true∨∃cs,IS z= .agg cs:=by
         cases hzz:IS z with
         | agg cs=>exact .inr ⟨cs,rfl⟩
         | Dg cs=>rw[hzz] at h;simp[D.cells,HH,Kl] at h
         | bad=>rw[hzz] at h;simp[D.cells,HH,Kl] at h
         | _=>left;simp[D.cells,D.one]
       exact (Km F w M (sg st.hp) z).cells this
     have Bb3:=hzd F w M (sg st.hp) _ hz0;have Bb2:zs.length=i.size:=by rw[hzs,HV];exact hzl
     obtain ⟨h2,h3⟩:=hr.Xe (q:=q) (cap:=m'.toNat) (sz:=i.size) (es:=List.replicate l'.toNat zs) (e:=e) (vs:=madeCells z.cells (m'.toNat*i.size))
       (w':=w.alloc (.cells (madeCells z.cells (m'.toNat*i.size)) e)) hn rfl rfl rfl rfl FU (by simp;omega) (by unfold maxLen;omega)
       (λ j x hj=>by rw[Bb] at hj;split at hj<;>cases hj;exact Bb2) (size_madeCells _ _) (λ j x p y hj hp=>by
         rw[Bb] at hj;split at hj
         . rename_i Ct;cases hj;have h5:=Bb3 p y hp;have h6:=(An.1 hp).1;have h7:=Jd (j:=p) (sz:=i.size) (show j<m'.toNat by omega) (Ai _) (by omega);have h8:(j*i.size+p) % z.cells.size=p:=by rw[hzl,Nat.mul_comm,Nat.mul_add_mod];exact Nat.mod_eq_of_lt (by omega)
           have h9:(madeCells z.cells (m'.toNat*i.size)).getD (j*i.size+p) undef=z.cells[(j*i.size+p) % z.cells.size]!:=by
             simp[madeCells,As,h7]
           rw[h9,h8];have JI:p<z.cells.size:=by omega
           rw[Ay,BJ,A7 JI] at h5;rw[getElem!_pos z.cells p JI];exact h5
         . cases hj)
     rw[BH] at h3;refine ⟨_,_,_,_,F,_,hk,h2,λ _ h=>h,h3,.inl ?_⟩;simp only[execOp,ho,Q0,hvm,Sem.run_bind,Dq,Result.andThen_ok,Sem.run_pure]
 . exact h.elim
end
end Go.Am
end
