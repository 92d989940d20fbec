/- Texts of this proof, what it rests on, merged: part A. -/
import Derived.WalkKit
import Derived.WalkLawsBesides
import Derived.Laws.StructEq
import Derived.Laws.BytesString
import Derived.Laws.Cells
import Derived.Lib.SliceRun
import Derived.MapKept
section
set_option linter.unusedVariables false
set_option linter.unusedSimpArgs false
namespace Go.Am
open Go
inductive Pd where
 | int (k:IntKind) (n:Int)
 | bool (b:Bool)
 | str (l:List UInt8)
 | sl (es:List (List Pd))
inductive D where
 | p (x:Pd)
 | agg (cs:List D)
 | BA (cs:List D)
 | cl (es:List (List Pd))
 | cz (es:List (List Pd))
 | ref (id off len N:Nat)
 | ptr (id off:Nat)
 | pe (cs:List Pd)
 | ea (id i c N:Nat)
 | fn (f:FuncId) (cap:List D)
 | np
 | mv (id:Nat)
 | BS (id n:Nat)
 | J6 (id i n:Nat)
 | nr (id i len k:Nat)
 | Pu
 | bad
def Pd.val:Pd→Value
 | .int k n=> .int k n
 | .bool b=> .bool b
 | .str l=> .string ⟨l.toArray⟩
 | .sl _=>undef
def Pd.flat:Pd→Bool
 | .sl _=>false
 | _=>true
structure Mb where
 BU:Nat
 cap:Nat
 xs:List (Nat×Nat):=[]
inductive Sg where
 | box
 | arr (sz n:Nat)
 | BP (sz n k:Nat)
structure Ans where
 sg:Sg
 holds:(Nat→Prop)→World→Mb→Prop
 DO:Mb→Nat→Prop
 keep:∀{F F':Nat→Prop} {w w':World} {m:Mb},holds F w m→(∀b,F b→w'.heap[b]?=w.heap[b]?)→(∀b,F b→F' b)→(∀b,DO m b→w'.heap[b]?=w.heap[b]?∧¬F' b)→holds F' w' m
 Hl:∀{F:Nat→Prop} {w:World} {m:Mb} {b:Nat},holds F w m→DO m b→¬F b
 lt:∀{F:Nat→Prop} {w:World} {m:Mb} {b:Nat},holds F w m→DO m b→b<w.heap.size
 Amw:∀{F:Nat→Prop} {w w':World} {m:Mb},holds F w m→(∀b row t fr,F b→w.heap[b]?=some (.cells row t fr)→∃fr',w'.heap[b]?=some (.cells row t fr'))→(∀b,¬F b→w'.heap[b]?=w.heap[b]?)→holds F w' m
inductive AO where
 | box (cs:List D) (t:TypeId:=0)
 | arr (t:TypeId) (sz:Nat) (es:List (List Pd))
 | J3 (sz:Nat) (es:List (List Pd))
 | iter (l:List UInt8) (pos:Nat)
 | BK (g:Nat) (cs:List Pd)
 | Df (s:Ans)
 | mp (l:List (Pd×Pd))
 | BP (t e:TypeId) (sz k:Nat) (rows:List (List (List Pd))) (hole:Option Nat)
def base:Nat:=1000000
abbrev Hp:=List (Nat×AO)
def get {α:Type}:List (Nat×α)→Nat→Option α
 | [],_=>none
 | (k',x)::r,k=>if k'=k then some x else get r k
def AO.sg:AO→Sg
 | .box _ _=> .box
 | .arr _ sz es=> .arr sz es.length
 | .J3 sz es=> .arr sz es.length
 | .iter _ _=> .box
 | .BK _ _=> .box
 | .Df s=>s.sg
 | .mp _=> .box
 | .BP _ _ sz k rows _=> .BP sz rows.length k
def sg (h:Hp) (id:Nat):Option Sg:=(get h id).map AO.sg
inductive PR (F:Nat→Prop) (w:World):Pd→Value→Prop
 | int (k:IntKind) (n:Int):PR F w (.int k n) (.int k n)
 | bool (b:Bool):PR F w (.bool b) (.bool b)
 | str (l:List UInt8):PR F w (.str l) (.string ⟨l.toArray⟩)
 | Tk (a:Option Addr) (cap:Nat):PR F w (.sl []) (.slice a 0 cap)
 | sl (es:List (List Pd)) (b off cap sz:Nat) (row:Array Value) (t:TypeId) (fr:Nat×Nat)
     (hF:F b) (hh:w.heap[b]?=some (.cells row t fr)) (hc:es.length≤cap)
     (hs:∀(i:Nat) e,es[i]?=some e→e.length=sz)
     (hi:∀(i:Nat) e (j:Nat) c,es[i]?=some e→e[j]?=some c→off+i*sz+j<row.size)
     (hp:∀(i:Nat) e (j:Nat) c,es[i]?=some e→e[j]?=some c→PR F w c (row.getD (off+i*sz+j) undef)):
     PR F w (.sl es) (.slice (some ⟨b,off,none⟩) es.length cap)
theorem PR.flat {F:Nat→Prop} {w:World} {x:Pd} (h:x.flat=true):PR F w x x.val:=by
 cases x with
 | int k n=>exact .int k n
 | bool b=>exact .bool b
 | str l=>exact .str l
 | sl _=>cases h
theorem PR.keep {F F':Nat→Prop} {w w':World} {x:Pd} {v:Value} (h:PR F w x v) (hw:∀b,F b→w'.heap[b]?=w.heap[b]?) (hF:∀b,F b→F' b):
   PR F' w' x v:=by
 induction h with
 | int k n=>exact .int k n
 | bool b=>exact .bool b
 | str l=>exact .str l
 | Tk a cap=>exact .Tk a cap
 | sl es b off cap sz row t fr hb hh hc hs hi hp ih=>
   exact .sl es b off cap sz row t fr (hF b hb) (by rw[hw b hb];exact hh) hc hs hi (fun i e j c h1 h2=>ih i e j c h1 h2)
theorem PR.HY {F:Nat→Prop} {w:World} {x:Pd} {v:Value} (h:PR F w x v):v.oneCell'=true:=by
 cases h<;>rfl
def PB (m:Mb) (sz n off len:Nat) (v:Value):Prop:=
 ∃a cap,v= .slice a len cap∧off+len≤n∧len≤cap∧off+cap=m.cap∧(cap=0∨a=some ⟨m.BU,off*sz,none⟩)
inductive DR (F:Nat→Prop) (w:World) (M:Nat→Mb) (s:Nat→Option Sg):D→Value→Prop
 | p {x:Pd} {v:Value} (h:PR F w x v):DR F w M s (.p x) v
 | agg (cs:List D) (vs:Array Value) (hl:vs.size=cs.length) (h:∀(i:Nat) c,cs[i]?=some c→DR F w M s c (vs.getD i undef)):DR F w M s (.agg cs) (.agg vs)
 | BA (cs:List D) (vs:Array Value) (hl:vs.size=cs.length) (h:∀(i:Nat) c,cs[i]?=some c→DR F w M s c (vs.getD i undef)):DR F w M s (.BA cs) (.tuple vs)
 | cl (es:List (List Pd)) (a:Option Addr) (h:PR F w (.sl es) (.slice a es.length es.length)) (hn:es=[]→a=none):DR F w M s (.cl es) (.slice a es.length es.length)
 | cz (es:List (List Pd)) (a:Option Addr) (h:PR F w (.sl es) (.slice a es.length es.length)):DR F w M s (.cz es) (.slice a es.length es.length)
 | ref (id off len N sz n:Nat) (v:Value) (hs:s id=some (.arr sz n)) (hN:N≤n) (hv:∃a l c,v= .slice a l c) (h:N=n→PB (M id) sz n off len v):DR F w M s (.ref id off len N) v
 | ptr (id off:Nat) (hs:s id=some .box):DR F w M s (.ptr id off) (.pointer (some ⟨(M id).BU,off,none⟩))
 | pe (cs:List Pd) (b off:Nat) (row:Array Value) (t:TypeId) (fr:Nat×Nat) (hF:F b) (hh:w.heap[b]?=some (.cells row t fr))
     (hi:∀(j:Nat) c,cs[j]?=some c→off+j<row.size) (hp:∀(j:Nat) c,cs[j]?=some c→PR F w c (row.getD (off+j) undef)):
     DR F w M s (.pe cs) (.pointer (some ⟨b,off,none⟩))
 | ea (id i c N sz n:Nat) (v:Value) (hs:s id=some (.arr sz n)) (hN:N≤n) (hv:∃a,v= .pointer a) (h:N=n→v= .pointer (some ⟨(M id).BU,i*sz+c,none⟩)∧i<n):
     DR F w M s (.ea id i c N) v
 | fn (f:FuncId) (cap:List D) (vs:Array Value) (hl:vs.size=cap.length) (h:∀(i:Nat) c,cap[i]?=some c→DR F w M s c (vs.getD i undef)):
     DR F w M s (.fn f cap) (.func (.func f) #[] vs)
 | np:DR F w M s .np (.pointer none)
 | mv (id:Nat) (hs:s id=some .box):DR F w M s (.mv id) (.map (some (M id).BU))
 | BS (id n sz m k:Nat) (v:Value) (hs:s id=some (.BP sz m k)) (hN:n≤m) (hv:∃a c,v= .slice a n c∧(n=0∨∃b,a=some ⟨b,0,none⟩)) (h:n=m→PB (M id) 1 m 0 n v):DR F w M s (.BS id n) v
 | J6 (id i n sz m k:Nat) (b:Nat) (hs:s id=some (.BP sz m k)) (hN:n≤m) (hi:i<n) (h:n=m→b=(M id).BU∧(M id).cap≠0):DR F w M s (.J6 id i n) (.pointer (some ⟨b,i,none⟩))
 | nr (id i len q sz m k:Nat) (v:Value) (hs:s id=some (.BP sz m k)) (hN:q≤k) (hv:∃a c,v= .slice a len c) (h:q=k→∃bc,(M id).xs[i]?=some bc∧len≤bc.2∧∃a,v= .slice a len bc.2∧(bc.2=0∨a=some ⟨bc.1,0,none⟩)):DR F w M s (.nr id i len q) v
 | Pu (v:Value) (h:v.oneCell'=true):DR F w M s .Pu v
 | bad (v:Value):DR F w M s .bad v
def Ba (M M':Nat→Mb) (s s':Nat→Option Sg):Prop:=
 (∀id,s id=some .box→s' id=some .box∧(M' id).BU=(M id).BU)∧
 (∀id sz n,s id=some (.arr sz n)→∃n',s' id=some (.arr sz n')∧n≤n'∧(n'=n→M' id=M id))∧
 (∀id sz n k,s id=some (.BP sz n k)→∃n' k',s' id=some (.BP sz n' k')∧n≤n'∧k≤k'∧(n'=n→(M' id).BU=(M id).BU∧(M' id).cap=(M id).cap)∧(k'=k→(M' id).xs=(M id).xs))
theorem Ba.refl (M:Nat→Mb) (s:Nat→Option Sg):Ba M M s s:=
 ⟨fun _ h=>⟨h,rfl⟩,fun _ _ n h=>⟨n,h,Nat.le_refl _,fun _=>rfl⟩,fun _ _ n k h=>⟨n,k,h,Nat.le_refl _,Nat.le_refl _,fun _=>⟨rfl,rfl⟩,fun _=>rfl⟩⟩
theorem Ba.trans {M M' M'':Nat→Mb} {s s' s'':Nat→Option Sg} (h:Ba M M' s s') (h':Ba M' M'' s' s''):Ba M M'' s s'':=by
 refine ⟨fun id hi=>?_,fun id sz n hi=>?_,fun id sz n k hi=>?_⟩
 · obtain ⟨h1,h2⟩:=h.1 id hi;obtain ⟨h3,h4⟩:=h'.1 id h1;exact ⟨h3,h4.trans h2⟩
 · obtain ⟨n1,h1,h2,h3⟩:=h.2.1 id sz n hi;obtain ⟨n2,h4,h5,h6⟩:=h'.2.1 id sz n1 h1;refine ⟨n2,h4,Nat.le_trans h2 h5,fun e=>?_⟩;have e1:n1=n:=by omega
   rw[h6 (by omega),h3 e1]
 · obtain ⟨n1,k1,h1,h2,EV,h3,h3'⟩:=h.2.2 id sz n k hi;obtain ⟨n2,k2,h4,h5,h5',h6,h6'⟩:=h'.2.2 id sz n1 k1 h1;refine ⟨n2,k2,h4,Nat.le_trans h2 h5,Nat.le_trans EV h5',fun e=>?_,fun e=>?_⟩
   · have e1:n1=n:=by omega
     exact ⟨(h6 (by omega)).1.trans (h3 e1).1,(h6 (by omega)).2.trans (h3 e1).2⟩
   · have e1:k1=k:=by omega
     rw[h6' (by omega),h3' e1]
theorem DR.keep {F F':Nat→Prop} {w w':World} {M M':Nat→Mb} {s s':Nat→Option Sg} {d:D} {v:Value} (h:DR F w M s d v)
   (hw:∀b,F b→w'.heap[b]?=w.heap[b]?) (hF:∀b,F b→F' b) (hs:Ba M M' s s'):DR F' w' M' s' d v:=by
 induction h with
 | p h=>exact .p (h.keep hw hF)
 | agg cs vs hl _ ih=>exact .agg cs vs hl ih
 | BA cs vs hl _ ih=>exact .BA cs vs hl ih
 | cl es a h hn=>exact .cl es a (h.keep hw hF) hn
 | cz es a h=>exact .cz es a (h.keep hw hF)
 | ref id off len N sz n v h1 hN hv h2=>
   obtain ⟨n',h3,h4,h5⟩:=hs.2.1 id sz n h1;refine .ref id off len N sz n' v h3 (Nat.le_trans hN h4) hv fun e=>?_;have e2:n'=n:=by omega
   subst e2;rw[h5 rfl];exact h2 e
 | ptr id off h1=>
   obtain ⟨h2,h3⟩:=hs.1 id h1;rw[←h3];exact .ptr id off h2
 | pe cs b off row t fr hb hh hi hp=>exact .pe cs b off row t fr (hF b hb) (by rw[hw b hb];exact hh) hi (fun j c h1=>(hp j c h1).keep hw hF)
 | ea id i c N sz n v h1 hN hv h2=>
   obtain ⟨n',h3,h4,h5⟩:=hs.2.1 id sz n h1;refine .ea id i c N sz n' v h3 (Nat.le_trans hN h4) hv fun e=>?_;have e2:n'=n:=by omega
   subst e2;rw[h5 rfl];exact h2 e
 | fn f cap vs hl _ ih=>exact .fn f cap vs hl ih
 | np=>exact .np
 | mv id h1=>
   obtain ⟨h2,h3⟩:=hs.1 id h1;rw[←h3];exact .mv id h2
 | BS id n sz m k v h1 hN hv h2=>
   obtain ⟨m',k',h3,h4,_,h5,_⟩:=hs.2.2 id sz m k h1;refine .BS id n sz m' k' v h3 (Nat.le_trans hN h4) hv fun e=>?_;obtain ⟨h6,h7⟩:=h5 (by omega);obtain ⟨a,cap,g1,g2,g3,g4,g5⟩:=h2 (by omega);exact ⟨a,cap,g1,by omega,g3,by rw[h7];exact g4,by rw[h6];exact g5⟩
 | J6 id i n sz m k b h1 hN hi h2=>
   obtain ⟨m',k',h3,h4,_,h5,_⟩:=hs.2.2 id sz m k h1;refine .J6 id i n sz m' k' b h3 (Nat.le_trans hN h4) hi fun e=>?_;obtain ⟨h6,h7⟩:=h5 (by omega);rw[h6,h7];exact h2 (by omega)
 | nr id i len q sz m k v h1 hN hv h2=>
   obtain ⟨m',k',h3,_,h4,_,h5⟩:=hs.2.2 id sz m k h1;refine .nr id i len q sz m' k' v h3 (Nat.le_trans hN h4) hv fun e=>?_;rw[h5 (by omega)];exact h2 (by omega)
 | Pu v h=>exact .Pu v h
 | bad v=>exact .bad v
def Ni (ty t:TypeId):TypeId:=if ty=0 then t else ty
def D.U9:D→Bool
 | .np=>true
 | _=>false
def Exa (ty:TypeId) (cs:List D) (row:Array Value):Prop:=ty≠0→cs.any D.U9=true→∀(j:Nat),cs[j]?=some (.cl [])→row.getD j undef= .slice none 0 0
theorem Exa.zero (cs:List D) (row:Array Value):Exa 0 cs row:=fun h=>(h rfl).elim
def Hm (fr:Nat×Nat) (n:Nat):Prop:=∀i,i<n→¬(fr.1≤i∧i<fr.2)
theorem Hm.zero (n:Nat):Hm (0,0) n:=fun _ _ h=>Nat.not_lt_zero _ h.2
def Oh (w:World) (b:Nat) (t:TypeId) (row:Array Value):Prop:=∃fr,w.heap[b]?=some (.cells row t fr)∧Hm fr row.size
theorem Oh.of0 {w:World} {b:Nat} {t:TypeId} {row:Array Value} (h:w.heap[b]?=some (.cells row t (0,0))):Oh w b t row:=⟨_,h,Hm.zero _⟩
theorem Oh.lt {w:World} {b:Nat} {t:TypeId} {row:Array Value} (h:Oh w b t row):b<w.heap.size:=(Array.getElem?_eq_some_iff.1 h.choose_spec.1).1
theorem Oh.keep {w w':World} {b:Nat} {t:TypeId} {row:Array Value} (h:Oh w b t row) (e:w'.heap[b]?=w.heap[b]?):Oh w' b t row:=by
 obtain ⟨fr,h1,h2⟩:=h;exact ⟨fr,by rw[e];exact h1,h2⟩
theorem Oh.set {w:World} {b:Nat} {t:TypeId} {row cs:Array Value} (h:Oh w b t row) (e:cs.size=row.size):Oh (w.setRow b cs) b t cs:=by
 obtain ⟨fr,h1,h2⟩:=h;exact ⟨fr,setRow_heap w b row cs t fr h1,by rw[e];exact h2⟩
theorem Dg (P:Program) (g o:Nat) (t:TypeId):∀(vs:List Value) (i:Nat) (cur:Array Value) (w:World),Oh w g t cur→o+i+vs.length≤cur.size→(∀v∈vs,v.oneCell'=true)→
   (storeCells ⟨g,o,none⟩ vs i).run P w= .ok () (w.setRow g (cur.toList.take (o+i)++vs++cur.toList.drop (o+i+vs.length)).toArray)
 | [],i,cur,w,hg,_,_=>by
   obtain ⟨fr,hg,_⟩:=hg;simp only[storeCells,List.append_nil,List.length_nil,Nat.add_zero,List.take_append_drop,Array.toArray_toList];rw[setRow_self w g cur t fr hg];rfl
 | v::rest,i,cur,w,hg0,hl,h1=>by
   have hi:o+i<cur.size:=by simp at hl;omega
   have ih:=Dg P g o t rest (i+1) (cur.setIfInBounds (o+i) v) (w.setRow g (cur.setIfInBounds (o+i) v)) (hg0.set (by simp)) (by simp at hl ⊢;omega) (fun x hx=>h1 x (by simp[hx]));obtain ⟨fr,hg,hm⟩:=hg0;have Amq:(⟨g,o,none⟩:Addr).add i=⟨g,o+i,none⟩:=by unfold Addr.add;split<;>simp_all
   have Mc:w.cell? ⟨g,o+i,none⟩=some cur[o+i]:=by simp[World.cell?,hg,hi]
   have Ax7:w.frozen? ⟨g,o+i,none⟩=false:=by
     have:=hm (o+i) hi;simp[World.frozen?,hg];omega
   have Jp:(store ((⟨g,o,none⟩:Addr).add i) v).run P w= .ok () (w.setRow g (cur.setIfInBounds (o+i) v)):=by
     rw[Amq,run_store P w _ v _ (h1 v (by simp)),Mc];simp[Ax7,setCell_eq_setRow w g (o+i) cur t fr v hg]
   simp only[storeCells,Sem.run_bind,Jp,Result.andThen_ok,ih,setRow_setRow]
   congr 3
   have e:=list_seg_step cur.toList (o+i) v rest (by simp at hl ⊢;omega)
   simpa [Array.toList_setIfInBounds,Nat.add_assoc] using e
def SA (F:Nat→Prop) (w:World) (m:Mb) (t:TypeId) (sz:Nat) (es:List (List Pd)):Prop:=
 0<sz∧es.length≤m.cap∧m.cap≤maxLen∧(∀(i:Nat) e,es[i]?=some e→e.length=sz)∧
     (m.cap≠0→¬F m.BU∧∃row,Oh w m.BU t row∧row.size=m.cap*sz∧
       ∀(i:Nat) e (j:Nat) c,es[i]?=some e→e[j]?=some c→PR F w c (row.getD (i*sz+j) undef))
structure FR (F:Nat→Prop) (w:World) (m:Mb) (t e:TypeId) (sz:Nat) (rows:List (List (List Pd))) (hole:Option Nat):Prop where
 pos:0<sz
 xl:m.xs.length=rows.length
 le:rows.length≤m.cap
 max:m.cap≤maxLen
 outer:m.cap≠0→¬F m.BU∧∃row,w.heap[m.BU]?=some (.cells row t (0,0))∧row.size=m.cap∧
   ∀(i:Nat) r bc,rows[i]?=some r→m.xs[i]?=some bc→hole≠some i→∃a,row.getD i undef= .slice a r.length bc.2∧(bc.2=0∨a=some ⟨bc.1,0,none⟩)
 rows:∀(i:Nat) r bc,rows[i]?=some r→m.xs[i]?=some bc→hole≠some i→SA F w ⟨bc.1,bc.2,[]⟩ e sz r
 Y5:∀(i:Nat) bc,hole=some i→m.xs[i]?=some bc→bc.2=0
 dis:∀(i j:Nat) bi bj,m.xs[i]?=some bi→m.xs[j]?=some bj→i≠j→bi.2≠0→bj.2≠0→bi.1≠bj.1
 out:∀(i:Nat) bi,m.xs[i]?=some bi→bi.2≠0→m.cap≠0→bi.1≠m.BU
def B5 (m:Mb) (b:Nat):Prop:=(m.cap≠0∧b=m.BU)∨∃(i:Nat) (bc:Nat×Nat),m.xs[i]?=some bc∧bc.2≠0∧b=bc.1
theorem SA.keep {F F':Nat→Prop} {w w':World} {m:Mb} {t:TypeId} {sz:Nat} {es:List (List Pd)} (h:SA F w m t sz es)
   (hw:∀b,F b→w'.heap[b]?=w.heap[b]?) (hF:∀b,F b→F' b) (A6:m.cap≠0→w'.heap[m.BU]?=w.heap[m.BU]?∧¬F' m.BU):SA F' w' m t sz es:=by
 obtain ⟨h1,h2,EV,h3,h4⟩:=h;refine ⟨h1,h2,EV,h3,fun hc=>?_⟩;obtain ⟨h5,row,h6,h7,h8⟩:=h4 hc;obtain ⟨h9,Lx⟩:=A6 hc;exact ⟨Lx,row,h6.keep h9,h7,fun i e j c he hj=>(h8 i e j c he hj).keep hw hF⟩
theorem FR.row {F:Nat→Prop} {w:World} {m:Mb} {t e:TypeId} {sz:Nat} {rows:List (List (List Pd))} {hole:Option Nat} (h:FR F w m t e sz rows hole) {i:Nat} {bc:Nat×Nat} (hx:m.xs[i]?=some bc) (hc:bc.2≠0):
   ∃r,rows[i]?=some r∧hole≠some i∧SA F w ⟨bc.1,bc.2,[]⟩ e sz r:=by
 have AL:i<rows.length:=by rw[←h.xl];exact (List.getElem?_eq_some_iff.1 hx).1
 have hh:hole≠some i:=fun e=>hc (h.Y5 i bc e hx);exact ⟨rows[i],by simp[AL],hh,h.rows i _ bc (by simp[AL]) hx hh⟩
theorem FR.keep {F F':Nat→Prop} {w w':World} {m:Mb} {t e:TypeId} {sz:Nat} {rows:List (List (List Pd))} {hole:Option Nat} (h:FR F w m t e sz rows hole)
   (hw:∀b,F b→w'.heap[b]?=w.heap[b]?) (hF:∀b,F b→F' b) (A6:∀b,B5 m b→w'.heap[b]?=w.heap[b]?∧¬F' b):FR F' w' m t e sz rows hole:=by
 refine ⟨h.pos,h.xl,h.le,h.max,fun hc=>?_,fun i r bc h1 h2 h3=>(h.rows i r bc h1 h2 h3).keep hw hF fun hc=>A6 _ (.inr ⟨i,bc,h2,hc,rfl⟩),h.Y5,h.dis,h.out⟩;obtain ⟨h1,row,h2,h3⟩:=h.outer hc;obtain ⟨h4,h5⟩:=A6 _ (.inl ⟨hc,rfl⟩);exact ⟨h5,row,by rw[h4];exact h2,h3⟩
theorem FR.Hl {F:Nat→Prop} {w:World} {m:Mb} {t e:TypeId} {sz:Nat} {rows:List (List (List Pd))} {hole:Option Nat} (h:FR F w m t e sz rows hole) {b:Nat} (hb:B5 m b):¬F b:=by
 rcases hb with ⟨hc,rfl⟩ | ⟨i,bc,hx,hc,rfl⟩
 · exact (h.outer hc).1
 · obtain ⟨r,_,_,h1⟩:=h.row hx hc;exact (h1.2.2.2.2 hc).1
theorem FR.lt {F:Nat→Prop} {w:World} {m:Mb} {t e:TypeId} {sz:Nat} {rows:List (List (List Pd))} {hole:Option Nat} (h:FR F w m t e sz rows hole) {b:Nat} (hb:B5 m b):b<w.heap.size:=by
 rcases hb with ⟨hc,rfl⟩ | ⟨i,bc,hx,hc,rfl⟩
 · obtain ⟨_,row,h2,_⟩:=h.outer hc;exact (Array.getElem?_eq_some_iff.1 h2).1
 · obtain ⟨r,_,_,h1⟩:=h.row hx hc;obtain ⟨_,rw_,h2,_⟩:=h1.2.2.2.2 hc;exact h2.lt
def LZ (F:Nat→Prop) (w:World) (M:Nat→Mb) (s:Nat→Option Sg) (m:Mb):AO→Prop
 | .box cs ty=>¬F m.BU∧∃row t,w.heap[m.BU]?=some (.cells row (Ni ty t) (0,0))∧row.size=cs.length∧
     (∀(j:Nat) d,cs[j]?=some d→DR F w M s d (row.getD j undef)∧(row.getD j undef).oneCell'=true)∧Exa ty cs row
 | .arr t sz es=>0<sz∧es.length≤m.cap∧m.cap≤maxLen∧(∀(i:Nat) e,es[i]?=some e→e.length=sz)∧
     (m.cap≠0→¬F m.BU∧∃row,Oh w m.BU t row∧row.size=m.cap*sz∧
       ∀(i:Nat) e (j:Nat) c,es[i]?=some e→e[j]?=some c→PR F w c (row.getD (i*sz+j) undef))
 | .J3 sz es=>0<sz∧es.length≤m.cap∧(∀(i:Nat) e,es[i]?=some e→e.length=sz)∧
     (m.cap≠0→F m.BU∧∃row t fr,w.heap[m.BU]?=some (.cells row t fr)∧row.size=m.cap*sz∧
       ∀(i:Nat) e (j:Nat) c,es[i]?=some e→e[j]?=some c→PR F w c (row.getD (i*sz+j) undef))
 | .iter l pos=>¬F m.BU∧w.heap[m.BU]?=some (.stringIter ⟨l.toArray⟩ pos)
 | .BK g cs=>F g∧∃row t fr,w.heap[g]?=some (.cells row t fr)∧row.size=cs.length∧∀(j:Nat) c,cs[j]?=some c→PR F w c (row.getD j undef)
 | .Df o=>o.holds F w m
 | .mp l=>¬F m.BU∧(∃es clock,w.heap[m.BU]?=some (.map es clock)∧es.toList.map (fun e=>(e.key,e.val))=l.map (fun p=>(p.1.val,p.2.val)))∧∀p∈l,p.2.flat=true
 | .BP t e sz _ rows hole=>FR F w m t e sz rows hole
def AO.DO (o:AO) (m:Mb) (b:Nat):Prop:=
 match o with
 | .box _ _=>b=m.BU
 | .arr _ _ _=>m.cap≠0∧b=m.BU
 | .J3 _ _=>False
 | .iter _ _=>b=m.BU
 | .BK _ _=>False
 | .Df s=>s.DO m b
 | .mp _=>b=m.BU
 | .BP _ _ _ _ _ _=>B5 m b
structure HR (F:Nat→Prop) (w:World) (M:Nat→Mb) (h:Hp):Prop where
 obj:∀id o,get h id=some o→LZ F w M (sg h) (M id) o
 inj:∀id o MA o' b,get h id=some o→get h MA=some o'→o.DO (M id) b→o'.DO (M MA) b→id=MA
def CL (M:Nat→Mb) (h:Hp) (b:Nat):Prop:=∃id o,get h id=some o∧o.DO (M id) b
theorem HR.Hl {F:Nat→Prop} {w:World} {M:Nat→Mb} {h:Hp} (hr:HR F w M h) {b:Nat} (ho:CL M h b):¬F b:=by
 obtain ⟨id,o,h1,h2⟩:=ho;have:=hr.obj id o h1;cases o with
 | box cs ty=>cases h2;exact this.1
 | arr t sz es=>obtain ⟨h2,rfl⟩:=h2;exact (this.2.2.2.2 h2).1
 | J3 sz es=>exact h2.elim
 | iter l pos=>cases h2;exact this.1
 | BK g cs=>exact h2.elim
 | Df s=>exact s.Hl this h2
 | mp l=>cases h2;exact this.1
 | BP t e sz k rows hole=>exact FR.Hl this h2
theorem HR.lt {F:Nat→Prop} {w:World} {M:Nat→Mb} {h:Hp} (hr:HR F w M h) {b:Nat} (ho:CL M h b):b<w.heap.size:=by
 obtain ⟨id,o,h1,h2⟩:=ho;have:=hr.obj id o h1;cases o with
 | box cs ty=>cases h2;obtain ⟨_,row,t,h3,_⟩:=this;exact (Array.getElem?_eq_some_iff.1 h3).1
 | arr t sz es=>obtain ⟨h2,rfl⟩:=h2;obtain ⟨_,row,h3,_⟩:=this.2.2.2.2 h2;exact h3.lt
 | J3 sz es=>exact h2.elim
 | iter l pos=>cases h2;exact (Array.getElem?_eq_some_iff.1 this.2).1
 | BK g cs=>exact h2.elim
 | Df s=>exact s.lt this h2
 | mp l=>cases h2;obtain ⟨_,⟨_,_,h3,_⟩,_⟩:=this;exact (Array.getElem?_eq_some_iff.1 h3).1
 | BP t e sz k rows hole=>exact FR.lt this h2
theorem LZ.keep {F F':Nat→Prop} {w w':World} {M M':Nat→Mb} {s s':Nat→Option Sg} {m:Mb} {o:AO} (h:LZ F w M s m o)
   (hw:∀b,F b→w'.heap[b]?=w.heap[b]?) (hF:∀b,F b→F' b) (hs:Ba M M' s s')
   (A6:∀b,o.DO m b→w'.heap[b]?=w.heap[b]?∧¬F' b):LZ F' w' M' s' m o:=by
 cases o with
 | box cs ty=>
   obtain ⟨h1,row,t,h2,h3,h4⟩:=h;obtain ⟨h5,h6⟩:=A6 _ rfl;exact ⟨h6,row,t,by rw[h5];exact h2,h3,fun j d hd=>⟨(h4.1 j d hd).1.keep hw hF hs,(h4.1 j d hd).2⟩,h4.2⟩
 | arr t sz es=>
   obtain ⟨h1,h2,EV,h3,h4⟩:=h;refine ⟨h1,h2,EV,h3,fun hc=>?_⟩;obtain ⟨h5,row,h6,h7,h8⟩:=h4 hc;obtain ⟨h9,Lx⟩:=A6 _ ⟨hc,rfl⟩;exact ⟨Lx,row,h6.keep h9,h7,fun i e j c he hj=>(h8 i e j c he hj).keep hw hF⟩
 | J3 sz es=>
   obtain ⟨h1,h2,h3,h4⟩:=h;refine ⟨h1,h2,h3,fun hc=>?_⟩;obtain ⟨h5,row,t,fr,h6,h7,h8⟩:=h4 hc;exact ⟨hF _ h5,row,t,fr,by rw[hw _ h5];exact h6,h7,fun i e j c he hj=>(h8 i e j c he hj).keep hw hF⟩
 | iter l pos=>
   obtain ⟨h5,h6⟩:=A6 _ rfl;exact ⟨h6,by rw[h5];exact h.2⟩
 | BK g cs=>
   obtain ⟨h1,row,t,fr,h2,h4,h3⟩:=h;exact ⟨hF _ h1,row,t,fr,by rw[hw _ h1];exact h2,h4,fun j c hc=>(h3 j c hc).keep hw hF⟩
 | Df o=>exact o.keep h hw hF A6
 | mp l=>
   obtain ⟨h5,h6⟩:=A6 _ rfl;obtain ⟨_,⟨es,clock,h2,h3⟩,h4⟩:=h;exact ⟨h6,⟨es,clock,by rw[h5];exact h2,h3⟩,h4⟩
 | BP t e sz k rows hole=>exact FR.keep h hw hF A6
theorem HR.keep {F:Nat→Prop} {w w':World} {M:Nat→Mb} {h:Hp} (hr:HR F w M h) (hw:∀b,F b→w'.heap[b]?=w.heap[b]?)
   (A6:∀b,CL M h b→w'.heap[b]?=w.heap[b]?):HR F w' M h:=
 ⟨fun id o ho=>(hr.obj id o ho).keep hw (fun _ h=>h) (Ba.refl _ _) (fun b h2=>⟨A6 b ⟨id,o,ho,h2⟩,hr.Hl ⟨id,o,ho,h2⟩⟩),hr.inj⟩
def GM (g:Sg):Ans where
 sg:=g
 holds:=fun _ _ _=>True
 DO:=fun _ _=>False
 keep:=fun _ _ _ _=>trivial
 Hl:=fun _ h=>h.elim
 lt:=fun _ h=>h.elim
 Amw:=fun _ _ _=>trivial
end Go.Am
namespace Go.Am
open Go
def Uz (b:Bool) (x y:Prop):Prop:=(b=true→x)∧(b=false→y)
@[simp] theorem WIf_true (x y:Prop):Uz true x y=x:=by simp[Uz]
@[simp] theorem WIf_false (x y:Prop):Uz false x y=y:=by simp[Uz]
structure St where
 env:List (Nat×D)
 hp:Hp
 n:Nat
def St.put (st:St) (t:Option Nat) (d:D):St:=
 match t with
 | some t=>if t<st.n then {st with env:=(t,d)::st.env} else st
 | none=>st
def Ae {α:Type}:List (Nat×α)→Nat→α→List (Nat×α)
 | [],k,x=>[(k,x)]
 | (k',x')::r,k,x=>if k'=k then (k,x)::r else (k',x')::Ae r k x
mutual
def GS:Value→D
  | .int k n=> .p (.int k n)
  | .bool b=> .p (.bool b)
  | .string s=> .p (.str s.data.toList)
  | .slice none 0 0=> .cl []
  | .pointer none=> .np
  | .agg cs=> .agg (LP cs.toList)
  | .tuple cs=> .BA (LP cs.toList)
  | _=> .bad
def LP:List Value→List D
  | []=>[]
  | v::r=>GS v::LP r
end
def ev (st:St):Operand→D
 | .tmp t=>(get st.env t).getD .bad
 | .const v=>GS v
 | .func f=> .fn f []
 | .global _=> .bad
inductive TK where
 | int (k:IntKind) | bool | string | slice (e:TypeId) | ptr (e:TypeId) | struct (fs:List (Nat×TypeId)) | array (n:Nat) (e:TypeId) | other
structure TI where
 size:Nat
 bytes:Nat
 k:TK
 zero:D
def TK.of:TypeDesc→TK
 | .int k=> .int k
 | .bool=> .bool
 | .string=> .string
 | .slice e=> .slice e
 | .pointer e=> .ptr e
 | .struct fs=> .struct (fs.toList.map fun f=>(f.offset,f.type))
 | .array n e=> .array n e
 | _=> .other
def TK.isAgg:TK→Bool
 | .struct _ | .array _ _=>true
 | _=>false
def AT (P:Program) (t:TypeId):Option TI:=
 match P.info? t,P.underlying t with
 | some i,some u=>match i.zero with
   | some z=>some ⟨i.size,i.bytes,TK.of u,GS z⟩
   | none=>none
 | _,_=>none
def D.one:D→Bool
 | .agg _ | .BA _ | .bad=>false
 | _=>true
def D.cells:D→List D
 | .agg cs=>cs
 | d=>[d]
def D.stored (d:D):Option (List D):=if d.cells.all D.one then some d.cells else none
def Q3 (ti:TI) (cs:List D) (off:Nat) (k:D→Prop):Prop:=
 if ti.k.isAgg then off+ti.size≤cs.length∧k (.agg ((cs.drop off).take ti.size))
 else match cs[off]? with
   | some d=>k d
   | none=>False
def PE (ti:TI) (cs:List Pd) (off:Nat) (k:D→Prop):Prop:=
 if ti.k.isAgg then off+ti.size≤cs.length∧k (.agg (((cs.drop off).take ti.size).map D.p))
 else match cs[off]? with
   | some d=>k (.p d)
   | none=>False
def TD (P:Program) (h:Hp) (t:TypeId) (d:D) (k:D→Prop):Prop:=
 match AT P t,d with
 | some ti,.ptr id off=>match get h id with
   | some (.box cs _)=>Q3 ti cs off k
   | _=>False
 | some ti,.pe cs=>PE ti cs 0 k
 | some ti,.ea id i c N=>match get h id with
   | some (.arr _ _ es)=>N=es.length∧PE ti (es.getD i []) c k
   | some (.J3 _ es)=>N=es.length∧PE ti (es.getD i []) c k
   | _=>False
 | some ti,.J6 id i n=>match get h id with
   | some (.BP _ _ _ kk rows hole)=>(n=rows.length∧hole≠some i∧ti.k.isAgg=false)∧k (.nr id i (rows.getD i []).length kk)
   | _=>False
 | _,_=>False
def Anh (op:BinOp) (x y:D) (k:D→Prop):Prop:=
 match op,x,y with
 | .add,.p (.int k1 a),.p (.int k2 b)=>k1=k2∧k (.p (.int k1 (k1.wrap (a+b))))
 | .sub,.p (.int k1 a),.p (.int k2 b)=>k1=k2∧k (.p (.int k1 (k1.wrap (a - b))))
 | .mul,.p (.int k1 a),.p (.int k2 b)=>k1=k2∧k (.p (.int k1 (k1.wrap (a*b))))
 | .quo,.p (.int k1 a),.p (.int k2 b)=>k1=k2∧b≠0∧k (.p (.int k1 (k1.wrap (a.tdiv b))))
 | .rem,.p (.int k1 a),.p (.int k2 b)=>k1=k2∧b≠0∧k (.p (.int k1 (a.tmod b)))
 | .eql,.p (.int k1 a),.p (.int k2 b)=>k1=k2∧k (.p (.bool (decide (a=b))))
 | .neq,.p (.int k1 a),.p (.int k2 b)=>k1=k2∧k (.p (.bool (!decide (a=b))))
 | .lss,.p (.int k1 a),.p (.int k2 b)=>k1=k2∧k (.p (.bool (decide (a<b))))
 | .leq,.p (.int k1 a),.p (.int k2 b)=>k1=k2∧k (.p (.bool (decide (a≤b))))
 | .gtr,.p (.int k1 a),.p (.int k2 b)=>k1=k2∧k (.p (.bool (decide (b<a))))
 | .geq,.p (.int k1 a),.p (.int k2 b)=>k1=k2∧k (.p (.bool (decide (b≤a))))
 | .and,.p (.int k1 a),.p (.int k2 b)=>k1=k2∧k (.p (.int k1 (k1.wrap (BitVec.ofInt k1.bits a&&& BitVec.ofInt k1.bits b).toNat)))
 | .shr,.p (.int k1 a),.p (.int _ b)=>0≤b∧k (.p (.int k1 (a.fdiv (2 ^ (min b.toNat k1.bits)))))
 | .add,.p (.str a),.p (.str b)=>a.length+b.length≤maxLen∧k (.p (.str (a++b)))
 | .eql,.p (.str a),.p (.str b)=>k (.p (.bool (decide (a=b))))
 | .neq,.p (.str a),.p (.str b)=>k (.p (.bool (!decide (a=b))))
 | _,_,_=>False
inductive FK where
 | int | bool | str
def Hz (P:Program):Nat→List Field→Option (List FK)
 | _,[]=>some []
 | i,f::r=>if f.name≠ "_" ∧f.offset=i then
     match AT P f.type,Hz P (i+1) r with
     | some ⟨1,_,.int _,_⟩,some l=>some (.int::l)
     | some ⟨1,_,.bool,_⟩,some l=>some (.bool::l)
     | some ⟨1,_,.string,_⟩,some l=>some (.str::l)
     | _,_=>none
   else none
def o5 (P:Program) (e:TypeId):Option FK:=
 match AT P e with
 | some ⟨1,_,.int _,_⟩=>some .int
 | some ⟨1,_,.bool,_⟩=>some .bool
 | some ⟨1,_,.string,_⟩=>some .str
 | _=>none
def Ai2 (P:Program) (t:TypeId):Option (List FK):=
 if P.eqGuardType P.depth t=false∧P.stoodInHeld t=false then
   match P.underlying t with
   | some (.struct fs)=>Hz P 0 fs.toList
   | some (.array n e)=>(o5 P e).map (List.replicate n)
   | _=>none
 else none
def K9:List FK→List D→List D→Option Bool
 | [],[],[]=>some true
 | .int::ks,.p (.int k a)::xs,.p (.int k' b)::ys=>if k=k' then (K9 ks xs ys).map (decide (a=b)&& ·) else none
 | .bool::ks,.p (.bool a)::xs,.p (.bool b)::ys=>(K9 ks xs ys).map ((a==b)&& ·)
 | .str::ks,.p (.str a)::xs,.p (.str b)::ys=>(K9 ks xs ys).map (decide (a=b)&& ·)
 | _,_,_=>none
def RY (P:Program) (t:TypeId) (xs ys:List D):Option Bool:=(Ai2 P t).bind fun ks=>K9 ks xs ys
def Ld (P:Program) (op:BinOp) (t:TypeId) (x y:D) (k:D→Prop):Prop:=
 match op,x,y with
 | .eql,.p (.bool a),.p (.bool b)=>(match AT P t with | some ⟨_,_,.bool,_⟩=>k (.p (.bool (a==b))) | _=>False)
 | .neq,.p (.bool a),.p (.bool b)=>(match AT P t with | some ⟨_,_,.bool,_⟩=>k (.p (.bool (!(a==b)))) | _=>False)
 | .eql,.agg xs,.agg ys=>(match RY P t xs ys with | some b=>k (.p (.bool b)) | none=>False)
 | .neq,.agg xs,.agg ys=>(match RY P t xs ys with | some b=>k (.p (.bool (!b))) | none=>False)
 | .eql,.p (.sl es),.cl []=>(match AT P t with | some ⟨_,_,.slice _,_⟩=>es≠[]∧k (.p (.bool false)) | _=>False)
 | .eql,.cl es,.cl []=>(match AT P t with | some ⟨_,_,.slice _,_⟩=>k (.p (.bool es.isEmpty)) | _=>False)
 | op,x,y=>Anh op x y k
def unD (op:UnOp) (x:D) (k:D→Prop):Prop:=
 match op,x with
 | .not,.p (.bool b)=>k (.p (.bool (!b)))
 | .neg,.p (.int kd n)=>k (.p (.int kd (kd.wrap (0 - n))))
 | _,_=>False
def WB (c a b:D) (k:D→Prop):Prop:=
 match c,a,b with
 | .p (.bool t),.p (.bool x),.p (.bool y)=>k (.p (.bool (if t then x else y)))
 | .p (.bool t),a,b=>Uz t (k a) (k b)
 | _,_,_=>False
def Qk:List (List Pd)→Option (List UInt8)
 | []=>some []
 | [.int .u8 n]::r=>(Qk r).map (UInt8.ofNat n.toNat:: ·)
 | _=>none
def XR (P:Program) (s d:TypeId) (x:D) (k:D→Prop):Prop:=
 match AT P s,AT P d,x with
 | some _,some ⟨_,_,.int kd,_⟩,.p (.int _ n)=>k (.p (.int kd (kd.wrap n)))
 | some _,some ⟨_,_,.string,_⟩,.p (.str l)=>k (.p (.str l))
 | some ⟨_,_,.slice e,_⟩,some ⟨_,_,.string,_⟩,.p (.sl es)=>match AT P e,Qk es with
   | some ⟨_,_,.int .u8,_⟩,some l=>k (.p (.str l))
   | _,_=>False
 | _,_,_=>False
def HB (P:Program) (t:TypeId) (x:D) (f:Nat) (h:Hp) (k:D→Prop):Prop:=
 match AT P t with
 | some ⟨_,_,.struct fs,_⟩=>match fs[f]? with
   | some (o,u)=>match AT P u with
     | some ti=>ti.size≠0∧match x with
       | .ptr id off=>k (.ptr id (off+o))
       | .pe cs=>k (.pe (cs.drop o))
       | .ea id i c N=>(match sg h id with | some (.arr _ m)=>N=m | _=>False)∧k (.ea id i (c+o) N)
       | _=>False
     | none=>False
   | none=>False
 | _=>False
def RU (P:Program) (t:TypeId) (x:D) (f:Nat) (k:D→Prop):Prop:=
 match AT P t with
 | some ⟨_,_,.struct fs,_⟩=>match fs[f]?,x with
   | some (o,u),.agg cs=>match AT P u with
     | some ti=>Q3 ti cs o k
     | none=>False
   | _,_=>False
 | _=>False
def Hr (P:Program) (t:TypeId) (x i:D) (h:Hp) (k:D→Prop):Prop:=
 match AT P t,i with
 | some ⟨_,_,.slice e,_⟩,.p (.int _ n)=>match AT P e with
   | some ti=>match x with
     | .p (.sl es)=>(0≤n∧n<es.length)∧(es.getD n.toNat []).length=ti.size∧k (.pe (es.getD n.toNat []))
     | .cl es=>(0≤n∧n<es.length)∧(es.getD n.toNat []).length=ti.size∧k (.pe (es.getD n.toNat []))
     | .ref id off len N=>match sg h id with
       | some (.arr sz m)=>(0≤n∧n<len)∧sz=ti.size∧N=m∧k (.ea id (off+n.toNat) 0 N)
       | _=>False
     | .BS id N=>(0≤n∧n<N)∧ti.size=1∧k (.J6 id n.toNat N)
     | _=>False
   | none=>False
 | some ⟨_,_,.array m e,_⟩,.p (.int _ n)=>match AT P e,x with
   | some ti,.ptr id off=>(0≤n∧n<m)∧k (.ptr id (off+n.toNat*ti.size))
   | some ti,.pe cs=>(0≤n∧n<m)∧k (.pe (cs.drop (n.toNat*ti.size)))
   | _,_=>False
 | _,_=>False
def Rq (P:Program) (t:TypeId) (x i:D) (k:D→Prop):Prop:=
 match AT P t,x,i with
 | some ⟨_,_,.string,_⟩,.p (.str l),.p (.int _ n)=>(0≤n∧n<l.length)∧k (.p (.int .u8 (l.getD n.toNat 0).toNat))
 | some ⟨_,_,.array m e,_⟩,.agg cs,.p (.int _ n)=>match AT P e with
   | some ti=>(0≤n∧n<m)∧Q3 ti cs (n.toNat*ti.size) k
   | none=>False
 | _,_,_=>False
def C8 (st:St) (o:Option Operand) (Vx:Int) (k:Int→Prop):Prop:=
 match o with
 | none=>k Vx
 | some x=>match ev st x with
   | .p (.int _ n)=>k n
   | _=>False
def QS (P:Program) (st:St) (t:TypeId) (x:D) (lo hi mx:Option Operand) (k:D→Prop):Prop:=
 match AT P t,x with
 | some ⟨_,_,.string,_⟩,.p (.str l)=>mx.isNone=true∧C8 st lo 0 fun a=>C8 st hi l.length fun b=>(0≤a∧a≤b∧b≤l.length)∧k (.p (.str ((l.take b.toNat).drop a.toNat)))
 | some ⟨_,_,.slice e,_⟩,x=>match AT P e with
   | some ti=>match x with
     | .p (.sl es)=>match mx with
       | none=>C8 st lo 0 fun a=>C8 st hi es.length fun b=>(0≤a∧a≤b∧b≤es.length)∧(∀(i:Nat) e,es[i]?=some e→e.length=ti.size)∧k (.p (.sl ((es.take b.toNat).drop a.toNat)))
       | some m=>C8 st lo 0 fun a=>C8 st hi es.length fun b=>C8 st (some m) 0 fun c=>(0≤a∧a≤b∧b=c∧c≤es.length)∧(∀(i:Nat) e,es[i]?=some e→e.length=ti.size)∧hi.isSome=true∧k (.cz ((es.take b.toNat).drop a.toNat))
     | .ref id off len N=>match sg st.hp id with
       | some (.arr sz m)=>mx.isNone=true∧sz=ti.size∧C8 st lo 0 fun a=>C8 st hi len fun b=>(0≤a∧a≤b∧b≤len)∧N=m∧k (.ref id (off+a.toNat) (b - a).toNat N)
       | _=>False
     | _=>False
   | none=>False
 | _,_=>False
def Ee (place:Nat→Option (Nat×Nat)) (cells:List D):List (Nat×D)→Option (List D)
 | []=>some cells
 | (i,d)::rest=>match place i with
   | none=>none
   | some (off,size)=>if d.cells.length=size∧off+size≤cells.length∧d.cells.all D.one=true then Ee place (cells.take off++d.cells++cells.drop (off+size)) rest else none
def Jf (P:Program):List (Nat×TypeId)→Option (List (Nat×Nat))
 | []=>some []
 | (o,u)::r=>match AT P u,Jf P r with
   | some ti,some l=>some ((o,ti.size)::l)
   | _,_=>none
def Sn (P:Program) (st:St) (t:TypeId) (parts:List (Nat×Operand)) (k:D→Prop):Prop:=
 match AT P t with
 | some ⟨_,_,.struct fs,z⟩=>
   match Jf P fs,z with
   | some pl,.agg zs=>match Ee (fun i=>pl[i]?) zs (parts.map fun q=>(q.1,ev st q.2)) with
     | some cs=>k (.agg cs)
     | none=>False
   | _,_=>False
 | some ⟨_,_,.array _ e,z⟩=>
   match AT P e,z with
   | some ti,.agg zs=>match Ee (fun i=>some (i*ti.size,ti.size)) zs (parts.map fun q=>(q.1,ev st q.2)) with
     | some cs=>k (.agg cs)
     | none=>False
   | _,_=>False
 | _=>False
def K1 (x:D) (i:Nat) (k:D→Prop):Prop:=
 match x with
 | .BA cs=>match cs[i]? with
   | some d=>k d
   | none=>False
 | _=>False
inductive KK where
 | int (k:IntKind) | str
def KK.fit:KK→Pd→Bool
 | .int k,.int k' _=>decide (k'=k)
 | .str,.str _=>true
 | _,_=>false
def pdV:Value→Option Pd
 | .int k n=>some (.int k n)
 | .bool b=>some (.bool b)
 | .string s=>some (.str s.data.toList)
 | _=>none
def mapOf (P:Program) (t:TypeId):Option (KK×Pd):=
 match P.underlying t with
 | some (.map k e)=>match P.underlying k,(P.info? e).bind (·.zero) with
   | some (.int q),some z=>(pdV z).map fun y=>(.int q,y)
   | some .string,some z=>(pdV z).map fun y=>(.str,y)
   | _,_=>none
 | _=>none
def Pd.same:Pd→Pd→Option Bool
 | .int k a,.int k' b=>if k=k' then some (a==b) else none
 | .str a,.str b=>some (a==b)
 | _,_=>none
def JS (k:Pd):List (Pd×Pd)→Option (Option Pd)
 | []=>some none
 | (k',v)::r=>match Pd.same k k' with
   | some true=>some (some v)
   | some false=>JS k r
   | none=>none
def OQ (k:Pd) (l:List (Pd×Pd)):Prop:=(JS k l).isSome=true
def Rd (k:Pd) (l:List (Pd×Pd)):Option Pd:=(JS k l).getD none
def IB (k v:Pd):List (Pd×Pd)→List (Pd×Pd)
 | []=>[(k,v)]
 | (k',v')::r=>if Pd.same k k'=some true then (k,v)::r else (k',v')::IB k v r
def CS (z:Pd) (ok:Bool) (r:Option Pd):D:=if ok then .BA [.p (r.getD z),.p (.bool r.isSome)] else .p (r.getD z)
def NA (P:Program) (h:Hp) (t:TypeId) (x i:D) (ok:Bool) (k:D→Prop):Prop:=
 match mapOf P t,x,i with
 | some (kk,z),.mv id,.p key=>match get h id with
   | some (.mp l)=>(kk.fit key=true∧OQ key l)∧k (CS z ok (Rd key l))
   | _=>False
 | _,_,_=>False
def Rf (P:Program) (h:Hp) (t:TypeId) (m i v:D) (k:Hp→Prop):Prop:=
 match mapOf P t,m,i,v with
 | some (kk,_),.mv id,.p key,.p x=>match get h id with
   | some (.mp l)=>(kk.fit key=true∧OQ key l∧x.flat=true)∧k (Ae h id (.mp (IB key x l)))
   | _=>False
 | _,_,_,_=>False
def vOp (P:Program) (st:St) (op:Op) (k:D→Prop):Prop:=
 match op with
 | .move x | .assign x=>k (ev st x)
 | .pick c a b=>WB (ev st c) (ev st a) (ev st b) k
 | .binOp op t x y _=>Ld P op t (ev st x) (ev st y) k
 | .unOp op _ x=>unD op (ev st x) k
 | .nilCheck x=>match ev st x with
   | .ptr id off=>k (.ptr id off)
   | .pe cs=>k (.pe cs)
   | .ea id i c N=>(match sg st.hp id with | some (.arr _ m)=>N=m | _=>False)∧k (.ea id i c N)
   | _=>False
 | .convert s d x=>XR P s d (ev st x) k
 | .build t parts=>Sn P st t parts.toList k
 | .load t a=>TD P st.hp t (ev st a) k
 | .slice t x lo hi mx=>QS P st t (ev st x) lo hi mx k
 | .fieldAddr t x f=>HB P t (ev st x) f st.hp k
 | .field t x f=>RU P t (ev st x) f k
 | .indexAddr t x i=>Hr P t (ev st x) (ev st i) st.hp k
 | .index t x i=>Rq P t (ev st x) (ev st i) k
 | .extract t i=>K1 (ev st t) i k
 | .lookup t x i ok=>NA P st.hp t (ev st x) (ev st i) ok k
 | .makeFunc (.func f) first cap=>first.size=0∧k (.fn f (cap.toList.map (ev st)))
 | _=>False
def Co (l:List UInt8):List (List Pd):=l.map fun b=>[Pd.int .u8 b.toNat]
def froze (h:Hp) (id:Nat):Hp:=
 match get h id with
 | some (.arr _ sz es)=>Ae h id (.J3 sz es)
 | _=>h
def Iw (h:Hp) (d:D) (k:Pd→Hp→Prop):Prop:=
 match d with
 | .p x=>k x h
 | .cl es=>k (.sl es) h
 | .cz es=>k (.sl es) h
 | .ref id off len N=>match get h id with
   | some (.arr _ _ es)=>N=es.length∧k (.sl ((es.drop off).take len)) (froze h id)
   | some (.J3 _ es)=>N=es.length∧k (.sl ((es.drop off).take len)) h
   | _=>False
 | .BS id n=>match get h id with
   | some (.BP _ _ sz kk rows none)=>n=rows.length∧k (.sl (rows.map fun r=>[.sl r])) (Ae h id (.Df (GM (.BP sz rows.length kk))))
   | _=>False
 | _=>False
def Fp:Hp→List D→(List Pd→Hp→Prop)→Prop
 | h,[],k=>k [] h
 | h,d::r,k=>Iw h d fun x h'=>Fp h' r fun xs ZF=>k (x::xs) ZF
def Kb (h:Hp) (d:D) (k:List (List Pd)→Prop):Prop:=
 match d with
 | .p (.sl ys)=>k ys
 | .p (.str l)=>k (Co l)
 | .cl ys=>k ys
 | .ref id off len N=>match get h id with
   | some (.arr _ _ es)=>N=es.length∧k ((es.drop off).take len)
   | some (.J3 _ es)=>N=es.length∧k ((es.drop off).take len)
   | _=>False
 | _=>False
def chunk {α:Type} (sz:Nat):Nat→List α→List (List α)
 | 0,_=>[]
 | n+1,l=>l.take sz::chunk sz n (l.drop sz)
def X7 (P:Program) (h:Hp) (q:Nat) (t t2:TypeId) (s x:D) (k:D→Hp→Prop):Prop:=
 match AT P t,AT P t2 with
 | some ⟨_,_,.slice e,_⟩,some ti2=>(match ti2.k with | .slice _=>True | .string=>True | _=>False)∧match AT P e with
   | some ti=>Kb h x fun ys=>(∀y∈ys,y.length=ti.size)∧0<ti.size∧ti.zero.cells.length=ti.size∧match s with
     | .cl es=>get h q=none∧(es=[]∨ys≠[])∧(∀y∈es,y.length=ti.size)∧(es.length+ys.length)*ti.bytes≤140737488355328∧es.length+ys.length≤140737488355328∧
         k (.ref q 0 (es++ys).length (es++ys).length) ((q,.arr e ti.size (es++ys))::h)
     | .cz es=>get h q=none∧ys≠[]∧(∀y∈es,y.length=ti.size)∧(es.length+ys.length)*ti.bytes≤140737488355328∧es.length+ys.length≤140737488355328∧
         k (.ref q 0 (es++ys).length (es++ys).length) ((q,.arr e ti.size (es++ys))::h)
     | .ref id off len N=>match get h id with
       | some (.arr e' sz es)=>off=0∧N=es.length∧len=es.length∧e'=e∧sz=ti.size∧(es.length+ys.length)*ti.bytes≤140737488355328∧es.length+ys.length≤140737488355328∧
           k (.ref id 0 (es++ys).length (es++ys).length) (Ae h id (.arr e sz (es++ys)))
       | _=>False
     | .nr id i len kk=>match get h id with
       | some (.BP t3 e' sz k2 rows none)=>(e'=e∧sz=ti.size∧kk=k2∧len=(rows.getD i []).length∧i<rows.length∧get h q=none)∧(len+ys.length)*ti.bytes≤140737488355328∧len+ys.length≤140737488355328∧
           k (.ref q 0 (rows.getD i []++ys).length (rows.getD i []++ys).length) ((q,.arr e sz (rows.getD i []++ys))::Ae h id (.BP t3 e' sz (k2+1) rows (some i)))
       | _=>False
     | _=>False
   | none=>False
 | _,_=>False
def XP (P:Program) (h:Hp) (t:TypeId) (s x:D) (k:D→Hp→Prop):Prop:=
 match AT P t with
 | some ⟨_,_,.slice e,_⟩=>match AT P e with
   | some ti=>Kb h x fun ys=>(∀y∈ys,y.length=ti.size)∧0<ti.size∧match s with
     | .ref id off len N=>match get h id with
       | some (.arr e' sz es)=>N=es.length∧off+len≤N∧sz=ti.size∧
           k (.p (.int .i64 ((min len ys.length:Nat):Int))) (Ae h id (.arr e' sz (es.take off++ys.take len++es.drop (off+min len ys.length))))
       | _=>False
     | _=>False
   | none=>False
 | _=>False
def ID (ty:TypeId) (cs:List D):TypeId:=match ty with
 | 0=>0
 | t+1=>if cs.any D.U9=true then 0 else t+1
def Apn (hole:Option Nat) (k:Nat):Nat:=match hole with
 | none=>k+2
 | some _=>k+1
def Kw (h:Hp) (id i n:Nat) (v:D) (k:Hp→Prop):Prop:=
 match v with
 | .ref q off len N=>match get h q,get h id with
   | some (.arr e2 M3 es),some (.BP t e sz k2 rows hole)=>(off=0∧e2=e∧M3=sz∧N=es.length∧len=N∧n=rows.length∧(hole=none∨hole=some i))∧
       k (Ae (Ae h id (.BP t e sz (Apn hole k2) (rows.set i es) none)) q (.Df (GM (.arr sz (es.length+1)))))
   | _,_=>False
 | _=>False
def QM (P:Program) (h:Hp) (t:TypeId) (a v:D) (k:Hp→Prop):Prop:=
 match AT P t with
 | some ti=>match v.stored with
   | some cs=>cs.length=ti.size∧match a with
     | .ptr id off=>match get h id with
       | some (.box bs ty)=>off+cs.length≤bs.length∧k (Ae h id (.box (bs.take off++cs++bs.drop (off+cs.length)) (ID ty (bs.take off++cs++bs.drop (off+cs.length)))))
       | _=>False
     | .ea id i c N=>Fp h cs fun xs h'=>match get h' id with
       | some (.arr e sz es)=>N=es.length∧c+xs.length≤sz∧k (Ae h' id (.arr e sz (es.set i ((es.getD i []).take c++xs++(es.getD i []).drop (c+xs.length)))))
       | _=>False
     | .J6 id i n=>Kw h id i n v k
     | _=>False
   | none=>False
 | none=>False
def npT (t:TypeId) (cs:List D):TypeId:=if cs.any D.U9=true then t else 0
def mOp (P:Program) (st:St) (q:Nat) (op:Op) (k:D→Hp→Prop):Prop:=
 match op with
 | .alloc t=>match AT P t with
   | some ti=>match ti.zero.stored with
     | some cs=>get st.hp q=none∧k (.ptr q 0) ((q,.box cs (npT t cs))::st.hp)
     | none=>False
   | none=>False
 | .box _ x=>match (ev st x).stored with
   | some cs=>get st.hp q=none∧k (.ptr q 0) ((q,.box cs)::st.hp)
   | none=>False
 | .store t a x=>QM P st.hp t (ev st a) (ev st x) fun h=>k (.BA []) h
 | .makeMap _ none=>get st.hp q=none∧k (.mv q) ((q,.mp [])::st.hp)
 | .mapUpdate t m i x=>Rf P st.hp t (ev st m) (ev st i) (ev st x) fun h=>k (.BA []) h
 | .buildSlice t n parts=>match AT P t with
   | some ⟨_,_,.slice e,_⟩=>match AT P e with
     | some ti=>0<ti.size∧n*ti.size≤16777216∧match Ee (fun i=>some (i*ti.size,ti.size)) (List.replicate (n*ti.size) .bad) (parts.toList.map fun q=>(q.1,ev st q.2)) with
       | some cs=>Fp st.hp cs fun xs h=>get h q=none∧k (.ref q 0 n n) ((q,.arr e ti.size (chunk ti.size n xs))::h)
       | none=>False
     | none=>False
   | _=>False
 | .makeSlice t l m=>match AT P t,ev st l,ev st m with
   | some ⟨_,_,.slice e,_⟩,.p (.int _ l),.p (.int _ m)=>match AT P e with
     | some ti=>0<ti.size∧get st.hp q=none∧(0≤l∧l≤m∧m*ti.bytes≤140737488355328∧m≤140737488355328)∧ti.zero.cells.length=ti.size∧
         Fp [] ti.zero.cells fun zs _=>k (.ref q 0 l.toNat l.toNat) ((q,.arr e ti.size (List.replicate l.toNat zs))::st.hp)
     | none=>False
   | _,_,_=>False
 | _=>False
end Go.Am
namespace Go.Am
open Go
structure Ctx where
 w0:World
 F0:Nat→Prop
 O0:Nat→Prop
 M0:Nat→Mb
 s0:Nat→Option Sg
structure Akt (c:Ctx) (w:World) (F:Nat→Prop) (M:Nat→Mb) (h:Hp):Prop where
 os:w.os=c.w0.os
 tape:w.tape=c.w0.tape
 output:w.output=c.w0.output
 size:c.w0.heap.size≤w.heap.size
 J5:∀b,b<c.w0.heap.size→¬c.O0 b→w.heap[b]?=c.w0.heap[b]?
 F0:∀b,c.F0 b→F b
 Fn:∀b,F b→c.F0 b∨c.O0 b∨c.w0.heap.size≤b
 Fl:∀b,F b→b<w.heap.size
 own:∀b,CL M h b→c.O0 b∨c.w0.heap.size≤b
 Tm:Ba c.M0 M c.s0 (sg h)
 YN:∀id,c.s0 id≠none→base≤id
structure Rel (c:Ctx) (st:St) (a:Act) (w:World) (F:Nat→Prop) (M:Nat→Mb):Prop where
 env:∀t d,get st.env t=some d→DR F w M (sg st.hp) d (a.tmps.getD t undef)
 size:a.tmps.size=st.n
 defers:a.defers=[]
 heap:HR F w M st.hp
 keep:Akt c w F M st.hp
theorem AI {α:Type} (k':Nat) (x:α) (r:List (Nat×α)) (k:Nat):get ((k',x)::r) k=if k'=k then some x else get r k:=rfl
mutual
theorem Iy (F:Nat→Prop) (w:World) (M:Nat→Mb) (s:Nat→Option Sg):∀v:Value,DR F w M s (GS v) v
  | .int k n=>by simp only[GS];exact .p (.int k n)
  | .bool b=>by simp only[GS];exact .p (.bool b)
  | .string s=>by simp only[GS];have:=PR.str (F:=F) (w:=w) s.data.toList;simpa using DR.p this
  | .slice none 0 0=>by simp only[GS];exact .cl [] none (.Tk none 0) (fun _=>rfl)
  | .agg cs=>by
    simp only[GS];have h:=Mv F w M s cs.toList;refine .agg _ cs (by simpa using h.1.symm) fun i c hc=>?_;have:=h.2 i c hc
    simpa [Array.getD_eq_getD_getElem?,List.getD] using this
  | .tuple cs=>by
    simp only[GS];have h:=Mv F w M s cs.toList;refine .BA _ cs (by simpa using h.1.symm) fun i c hc=>?_;have:=h.2 i c hc
    simpa [Array.getD_eq_getD_getElem?,List.getD] using this
  | .float _ _=>by simp only[GS];exact .bad _
  | .complex _ _ _=>by simp only[GS];exact .bad _
  | .pointer none=>by simp only[GS];exact .np
  | .pointer (some _)=>by simp only[GS];exact .bad _
  | .slice (some _) _ _=>by simp only[GS];exact .bad _
  | .slice none (_+1) _=>by simp only[GS];exact .bad _
  | .slice none 0 (_+1)=>by simp only[GS];exact .bad _
  | .map _=>by simp only[GS];exact .bad _
  | .chan _=>by simp only[GS];exact .bad _
  | .func _ _ _=>by simp only[GS];exact .bad _
  | .nilFunc=>by simp only[GS];exact .bad _
  | .iface _ _=>by simp only[GS];exact .bad _
  | .nilIface=>by simp only[GS];exact .bad _
theorem Mv (F:Nat→Prop) (w:World) (M:Nat→Mb) (s:Nat→Option Sg):∀vs:List Value,
    (LP vs).length=vs.length∧∀(i:Nat) c,(LP vs)[i]?=some c→DR F w M s c (vs.getD i undef)
  | []=>by simp[LP]
  | v::r=>by
    have h0:=Iy F w M s v;have h1:=Mv F w M s r;refine ⟨by simp[LP,h1.1],fun i c hc=>?_⟩;cases i with
    | zero=>simp only[LP,List.getElem?_cons_zero,Option.some.injEq] at hc;subst hc;simpa [List.getD] using h0
    | succ i=>simp only[LP,List.getElem?_cons_succ] at hc;simpa [List.getD] using h1.2 i c hc
end
section
variable {P:Program} {c:Ctx} {st:St} {a:Act} {w:World} {F:Nat→Prop} {M:Nat→Mb}
theorem AF (hr:Rel c st a w F M) (x:Operand):DR F w M (sg st.hp) (ev st x) (a.eval x):=by
 cases x with
 | tmp t=>
   simp only[ev,Act.eval];cases h:get st.env t with
   | none=>exact .bad _
   | some d=>exact hr.env t d h
 | const v=>exact Iy _ _ _ _ v
 | global g=>exact .bad _
 | func f=>exact .fn f [] #[] rfl (fun i c h=>by simp at h)
theorem Az {t:TypeId} {ti:TI} (h:AT P t=some ti):∃i u z,P.info? t=some i∧P.underlying t=some u∧i.zero=some z∧ti=⟨i.size,i.bytes,TK.of u,GS z⟩:=by
 unfold AT at h;cases h1:P.info? t with
 | none=>rw[h1] at h;cases h
 | some i=>
   cases h2:P.underlying t with
   | none=>rw[h1,h2] at h;cases h
   | some u=>
     cases h3:i.zero with
     | none=>rw[h1,h2] at h;simp only[h3] at h;cases h
     | some z=>rw[h1,h2] at h;simp only[h3] at h;cases h;exact ⟨i,u,z,rfl,rfl,h3,rfl⟩
theorem TK.of_slice {u:TypeDesc} {e:TypeId} (h:TK.of u= .slice e):u= .slice e:=by cases u<;>simp_all [TK.of]
theorem TK.of_struct {u:TypeDesc} {fs:List (Nat×TypeId)} (h:TK.of u= .struct fs):∃gs,u= .struct gs∧fs=gs.toList.map fun f=>(f.offset,f.type):=by
 cases u<;>simp_all [TK.of]
theorem TK.of_array {u:TypeDesc} {n:Nat} {e:TypeId} (h:TK.of u= .array n e):u= .array n e:=by cases u<;>simp_all [TK.of]
theorem TK.of_string {u:TypeDesc} (h:TK.of u= .string):u= .string:=by cases u<;>simp_all [TK.of]
theorem TK.of_int {u:TypeDesc} {k:IntKind} (h:TK.of u= .int k):u= .int k:=by cases u<;>simp_all [TK.of]
theorem BE {t:TypeId} {i:TypeInfo} (h:P.info? t=some i) (w:World):(sizeOf t).run P w= .ok i.size w:=by
 simp[sizeOf,typeInfo,h]
theorem QW {t:TypeId} {u:TypeDesc} (h:P.underlying t=some u) (w:World):(isAgg t).run P w= .ok (TK.of u).isAgg w:=by
 unfold isAgg;rw[Sem.run_bind,run_underlying h w];cases u<;>rfl
theorem E1 {t:TypeId} {i:TypeInfo} {u:TypeDesc} (hi:P.info? t=some i) (hu:P.underlying t=some u) {b off:Nat} {row:Array Value} {e:TypeId} {fr:Nat×Nat}
   (hb:w.heap[b]?=some (.cells row e fr)) (hag:(TK.of u).isAgg=true→off+i.size≤row.size∨i.size=0) (LV:(TK.of u).isAgg=false→off<row.size):
   (loadVar t ⟨b,off,none⟩).run P w= .ok (if (TK.of u).isAgg then .agg ((row.toList.drop off).take i.size).toArray else row.getD off undef) w:=by
 unfold loadVar;rw[Sem.run_bind,QW hu w];simp only[Result.andThen_ok];cases hk:(TK.of u).isAgg with
 | false=>
   have:=LV hk;have hc:w.cell? ⟨b,off,none⟩=some (row.getD off undef):=by
     rw[cell_of_row w b off row e fr hb,Array.getD_eq_getD_getElem?];simp[this]
   simp[hc]
 | true=>
   have hl:=hag hk;have hlen:((row.toList.drop off).take i.size).length=i.size:=by simp;omega
   have hc:=run_loadCells_list (P:=P) w ⟨b,off,none⟩ ((row.toList.drop off).take i.size) (fun j v hv=>by
     rw[Addr.add_lit,cell_of_row w b (off+j) row e fr hb];rw[List.getElem?_take] at hv;split at hv
     · simpa using hv
     · cases hv)
   rw[hlen] at hc;simp[BE hi w,hc]
theorem Kr {ti:TI} {cs:List D} {off:Nat} {k:D→Prop} (h:Q3 ti cs off k) {row:Array Value} {s:Nat→Option Sg} (Bj:row.size=cs.length)
   (hc:∀(j:Nat) d,cs[j]?=some d→DR F w M s d (row.getD j undef)):
   (ti.k.isAgg=true→off+ti.size≤row.size∨ti.size=0)∧(ti.k.isAgg=false→off<row.size)∧
   ∃d,k d∧DR F w M s d (if ti.k.isAgg then .agg ((row.toList.drop off).take ti.size).toArray else row.getD off undef):=by
 unfold Q3 at h;cases hk:ti.k.isAgg with
 | true=>
   rw[hk] at h;simp only[if_true] at h;refine ⟨fun _=> .inl (by rw[Bj];exact h.1),fun h=>by simp at h,_,h.2,?_⟩;simp only[if_true];refine .agg _ _ (by simp[Bj]) fun i d hd=>?_;rw[List.getElem?_take] at hd;split at hd
   · rename_i AL;rw[List.getElem?_drop] at hd;have:=hc _ d hd;have Qh:off+i<cs.length:=(List.getElem?_eq_some_iff.1 hd).1;have e:(((row.toList.drop off).take ti.size).toArray).getD i undef=row.getD (off+i) undef:=by
       rw[Array.getD_eq_getD_getElem?,Array.getD_eq_getD_getElem?];simp[List.getElem?_take,AL]
     rw[e];exact this
   · cases hd
 | false=>
   rw[hk] at h;simp only[Bool.false_eq_true,if_false] at h ⊢;cases hd:cs[off]? with
   | none=>rw[hd] at h;exact h.elim
   | some d=>
     rw[hd] at h;exact ⟨fun h=>h.elim,fun _=>by rw[Bj];exact (List.getElem?_eq_some_iff.1 hd).1,d,h,hc off d hd⟩
theorem PD {ti:TI} {cs:List Pd} {off:Nat} {k:D→Prop} (h:PE ti cs off k) {row:Array Value} {s:Nat→Option Sg} (o:Nat)
   (hi:∀(j:Nat) c,cs[j]?=some c→o+j<row.size) (hc:∀(j:Nat) c,cs[j]?=some c→PR F w c (row.getD (o+j) undef)):
   (ti.k.isAgg=true→(o+off)+ti.size≤row.size∨ti.size=0)∧(ti.k.isAgg=false→o+off<row.size)∧
   ∃d,k d∧DR F w M s d (if ti.k.isAgg then .agg ((row.toList.drop (o+off)).take ti.size).toArray else row.getD (o+off) undef):=by
 unfold PE at h;cases hk:ti.k.isAgg with
 | true=>
   rw[hk] at h;simp only[if_true] at h;have CD:(o+off)+ti.size≤row.size∨ti.size=0:=by
     rcases Nat.eq_zero_or_pos ti.size with h0 | h0
     · exact .inr h0
     · refine .inl ?_;have h1:=h.1;have AL:off+ti.size - 1<cs.length:=by omega
       have:=hi (off+ti.size - 1) _ (List.getElem?_eq_getElem AL);omega
   refine ⟨fun _=>CD,fun h=>by simp at h,_,h.2,?_⟩;simp only[if_true];refine .agg _ _ (by rcases CD with h2 | h2<;>simp<;>omega) fun i d hd=>?_;rw[List.getElem?_map] at hd;cases hx:((cs.drop off).take ti.size)[i]? with
   | none=>rw[hx] at hd;cases hd
   | some x=>
     rw[hx] at hd;cases hd;rw[List.getElem?_take] at hx;split at hx
     · rename_i AL;rw[List.getElem?_drop] at hx;have:=hc _ x hx;have e:(((row.toList.drop (o+off)).take ti.size).toArray).getD i undef=row.getD (o+(off+i)) undef:=by
         rw[Array.getD_eq_getD_getElem?,Array.getD_eq_getD_getElem?];simp[List.getElem?_take,AL,Nat.add_assoc]
       rw[e];exact .p this
     · cases hx
 | false=>
   rw[hk] at h;simp only[Bool.false_eq_true,if_false] at h ⊢;cases hd:cs[off]? with
   | none=>rw[hd] at h;exact h.elim
   | some d=>
     rw[hd] at h;exact ⟨fun h=>h.elim,fun _=>hi off d hd,.p d,h,.p (hc off d hd)⟩
end
end Go.Am
namespace Go.Am
open Go
section
variable {P:Program} {c:Ctx} {st:St} {a:Act} {w:World} {F:Nat→Prop} {M:Nat→Mb}
theorem Bg {h:Hp} {id:Nat} {o:AO} (hg:get h id=some o):sg h id=some o.sg:=by simp[sg,hg]
theorem Afs {h:Hp} {id:Nat} (hg:sg h id=some .box):∃o,get h id=some o∧o.sg= .box:=by
 unfold sg at hg;cases ho:get h id with
 | none=>rw[ho] at hg;cases hg
 | some o=>rw[ho] at hg;exact ⟨o,rfl,Option.some.inj hg⟩
theorem Apg {h:Hp} {id sz n:Nat} (hg:sg h id=some (.arr sz n)):(∃t es,get h id=some (.arr t sz es)∧es.length=n)∨(∃es,get h id=some (.J3 sz es)∧es.length=n)∨(∃s,get h id=some (.Df s)∧s.sg= .arr sz n):=by
 unfold sg at hg;cases ho:get h id with
 | none=>rw[ho] at hg;cases hg
 | some o=>
   rw[ho] at hg;cases o<;>simp[AO.sg] at hg
   · obtain ⟨rfl,h2⟩:=hg;exact .inl ⟨_,_,rfl,h2⟩
   · obtain ⟨rfl,h2⟩:=hg;exact .inr (.inl ⟨_,rfl,h2⟩)
   · exact .inr (.inr ⟨_,rfl,hg⟩)
theorem HR.row (hr:HR F w M st.hp) {id sz:Nat} {es:List (List Pd)} (hg:(∃t,get st.hp id=some (.arr t sz es))∨get st.hp id=some (.J3 sz es)):
   0<sz∧es.length≤(M id).cap∧(∀(i:Nat) e,es[i]?=some e→e.length=sz)∧((M id).cap≠0→∃row t fr,w.heap[(M id).BU]?=some (.cells row t fr)∧row.size=(M id).cap*sz∧
       ∀(i:Nat) e (j:Nat) c,es[i]?=some e→e[j]?=some c→PR F w c (row.getD (i*sz+j) undef)):=by
 rcases hg with ⟨t,hg⟩ | hg
 · obtain ⟨h1,h2,_,h3,h4⟩:=hr.obj id _ hg;exact ⟨h1,h2,h3,fun hc=>by obtain ⟨_,row,⟨fr,h5,_⟩,h6⟩:=h4 hc;exact ⟨row,t,fr,h5,h6⟩⟩
 · obtain ⟨h1,h2,h3,h4⟩:=hr.obj id _ hg;exact ⟨h1,h2,h3,fun hc=>by obtain ⟨_,row,t,fr,h5⟩:=h4 hc;exact ⟨row,t,fr,h5⟩⟩
theorem Hg {i j n sz cap:Nat} (h1:i<n) (h2:n≤cap) (h3:j<sz):i*sz+j<cap*sz:=by
 have:(i+1)*sz≤cap*sz:=Nat.mul_le_mul_right _ (by omega);rw[Nat.add_mul] at this;omega
theorem PH (hr:HR F w M st.hp) {t:TypeId} {d:D} {k:D→Prop} (h:TD P st.hp t d k) {v:Value} (hv:DR F w M (sg st.hp) d v):
   ∃d' v',k d'∧DR F w M (sg st.hp) d' v'∧(Instr.loadAt t v).run P w= .ok v' w:=by
 unfold TD at h;cases ht:AT P t with
 | none=>rw[ht] at h;simp at h
 | some ti=>
   rw[ht] at h;obtain ⟨i,u,z,hi,hu,hz,rfl⟩:=Az ht;cases d with
   | ptr id off=>
     simp only at h;cases ho:get st.hp id with
     | none=>rw[ho] at h;exact h.elim
     | some o=>
       rw[ho] at h;cases o with
       | box cs ty=>
         cases hv with
         | ptr _ _ hs=>
           obtain ⟨h1,row,e,h2,h3,h4⟩:=hr.obj id _ ho;obtain ⟨hp1,Jq,d',hk,hd⟩:=Kr (F:=F) (w:=w) (M:=M) h (s:=sg st.hp) h3 (fun j d hd=>(h4.1 j d hd).1);exact ⟨d',_,hk,hd,by simp[Instr.loadAt,Instr.sureAddr,E1 hi hu h2 hp1 Jq]⟩
       | arr _ _ _=>exact h.elim
       | J3 _ _=>exact h.elim
       | iter _ _=>exact h.elim
       | BK _ _=>exact h.elim
       | Df _=>exact h.elim
       | mp _=>exact h.elim
       | BP _ _ _ _ _ _=>exact h.elim
   | pe cs=>
     simp only at h;cases hv with
     | pe _ b off row e fr hF hh RF hp=>
       obtain ⟨hp1,Jq,d',hk,hd⟩:=PD (F:=F) (w:=w) (M:=M) h (s:=sg st.hp) off RF hp;exact ⟨d',_,hk,hd,by simp only[Instr.loadAt,Instr.sureAddr,Sem.run_bind,Sem.run_pure,Result.andThen_ok];exact E1 hi hu hh hp1 Jq⟩
   | ea id j q N=>
     simp only at h;have key:∀(sz:Nat) (es:List (List Pd)),((∃t,get st.hp id=some (.arr t sz es))∨get st.hp id=some (.J3 sz es))→sg st.hp id=some (.arr sz es.length)→N=es.length→
         PE ⟨i.size,i.bytes,TK.of u,GS z⟩ (es.getD j []) q k→∃d' v',k d'∧DR F w M (sg st.hp) d' v'∧(Instr.loadAt t v).run P w= .ok v' w:=by
       intro sz es hg E9 hN At8;cases hv with
       | ea _ _ _ _ Pv n v hs hN' _ h2=>
         rw[E9] at hs;simp only[Option.some.injEq,Sg.arr.injEq] at hs;obtain ⟨rfl,rfl⟩:=hs;obtain ⟨rfl,AL⟩:=h2 hN;obtain ⟨h1,h3,h4,h5⟩:=hr.row hg;obtain ⟨row,e,fr,h6,h7,h8⟩:=h5 (by omega);have hej:es[j]?=some (es.getD j []):=by simp[List.getD,AL]
         have hlen:=h4 j _ hej;obtain ⟨hp1,Jq,d',hk,hd⟩:=PD (F:=F) (w:=w) (M:=M) At8 (s:=sg st.hp) (row:=row) (j*sz)
           (fun q c hc=>by rw[h7];exact Hg AL h3 (by have:=(List.getElem?_eq_some_iff.1 hc).1;omega)) (fun q c hc=>h8 j _ q c hej hc)
         exact ⟨d',_,hk,hd,by simp[Instr.loadAt,Instr.sureAddr,E1 hi hu h6 hp1 Jq]⟩
     cases ho:get st.hp id with
     | none=>rw[ho] at h;exact h.elim
     | some o=>
       rw[ho] at h;cases o with
       | box cs ty=>exact h.elim
       | arr t' sz es=>exact key sz es (.inl ⟨t',ho⟩) (Bg ho) h.1 h.2
       | J3 sz es=>exact key sz es (.inr ho) (Bg ho) h.1 h.2
       | iter _ _=>exact h.elim
       | BK _ _=>exact h.elim
       | Df _=>exact h.elim
       | mp _=>exact h.elim
       | BP _ _ _ _ _ _=>exact h.elim
   | J6 id j n=>
     simp only at h;cases ho:get st.hp id with
     | none=>rw[ho] at h;exact h.elim
     | some o=>
       rw[ho] at h;cases o with
       | BP t' e' sz kk rows hole=>
         obtain ⟨⟨h1,h2,h3⟩,hk⟩:=h;cases hv with
         | J6 _ _ _ M3 m k2 b hs hN C0 hl=>
           rw[Bg ho] at hs;simp only[AO.sg,Option.some.injEq,Sg.BP.injEq] at hs;obtain ⟨rfl,rfl,rfl⟩:=hs;obtain ⟨rfl,hc⟩:=hl h1;have hn:FR F w (M id) t' e' sz rows hole:=hr.obj id _ ho;obtain ⟨_,row,Bj,CD,Bd⟩:=hn.outer hc;have hjr:rows[j]?=some (rows.getD j []):=by simp[List.getD,show j<rows.length by omega]
           have hjx:j<(M id).xs.length:=by rw[hn.xl];omega
           have hjb:(M id).xs[j]?=some ((M id).xs[j]):=List.getElem?_eq_getElem hjx;obtain ⟨ad,h4,h5⟩:=Bd j _ _ hjr hjb h2;have hA:=hn.rows j _ _ hjr hjb h2;have Qh:j<row.size:=by have:=hn.le;omega
           have h3':(TK.of u).isAgg=false:=h3;refine ⟨_,row.getD j undef,hk,?_,by simp[Instr.loadAt,Instr.sureAddr,E1 hi hu Bj (fun h=>by rw[h3'] at h;cases h) (fun _=>Qh),h3']⟩;rw[h4];exact .nr id j _ _ sz rows.length kk _ (by rw[Bg ho];rfl) (Nat.le_refl _) ⟨_,_,rfl⟩ (fun _=>⟨_,hjb,hA.2.1,ad,rfl,h5⟩)
       | _=>exact h.elim
   | _=>simp at h
theorem QB {α:Type} [BEq α] [LawfulBEq α] [DecidableEq α] (a b:α):(a==b)=decide (a=b):=by rw[Bool.eq_iff_iff];simp
theorem Anf {α:Type} [BEq α] [LawfulBEq α] [DecidableEq α] (a b:α):(a != b)=!decide (a=b):=by rw[Bool.eq_iff_iff];simp
theorem FZ (l:List UInt8):(⟨l.toArray⟩:ByteArray).size=l.length:=by simp[ByteArray.size]
theorem YF (a b:List UInt8):((⟨a.toArray⟩:ByteArray)++(⟨b.toArray⟩:ByteArray))=⟨(a++b).toArray⟩:=by
 apply ByteArray.ext;simp
theorem ZU {op:BinOp} {x y:D} {k:D→Prop} (h:Anh op x y k) {s:Nat→Option Sg} {vx vy:Value} (hx:DR F w M s x vx) (hy:DR F w M s y vy) (t:TypeId) (ox oy:Operand):
   ∃d v,k d∧DR F w M s d v∧(do eqGuard op t ox oy vx vy;binOp op t vx vy:Sem Value).run P w= .ok v w:=by
 have Asj:∀{k1 k2:IntKind} {p q:Int},x= .p (.int k1 p)→y= .p (.int k2 q)→vx= .int k1 p∧vy= .int k2 q:=by
   rintro k1 k2 p q rfl rfl;cases hx with | p hx=>cases hx;cases hy with | p hy=>cases hy;exact ⟨rfl,rfl⟩
 have Aw6:∀{p q:List UInt8},x= .p (.str p)→y= .p (.str q)→vx= .string ⟨p.toArray⟩∧vy= .string ⟨q.toArray⟩:=by
   rintro p q rfl rfl;cases hx with | p hx=>cases hx;cases hy with | p hy=>cases hy;exact ⟨rfl,rfl⟩
 unfold Anh at h;split at h;all_goals first
   | exact h.elim
   | (obtain ⟨rfl,h⟩:=h
      obtain ⟨rfl,rfl⟩:=Asj rfl rfl;first
        | (refine ⟨_,_,h,.p (.int _ _),?_⟩;first | (simp[eqGuard,binOp,Op.intArith];done) | (simp[eqGuard,binOp,Op.intBits];done))
        | exact ⟨_,_,h.2,.p (.int _ _),by simp[eqGuard,binOp,Op.intDiv,h.1]⟩
        | (refine ⟨_,_,h,.p (.bool _),?_⟩;first | (simp[eqGuard,binOp,Op.intCmp];done) | (simp[eqGuard,binOp,Op.intCmp,QB,Anf];done)))
   | (obtain ⟨h0,h⟩:=h
      obtain ⟨rfl,rfl⟩:=Asj rfl rfl;exact ⟨_,_,h,.p (.int _ _),by simp[eqGuard,binOp,Op.shift,show ¬_<(0:Int) from Int.not_lt.2 h0]⟩)
   | (obtain ⟨rfl,rfl⟩:=Aw6 rfl rfl
      first
        | (refine ⟨_,_,h,.p (.bool _),?_⟩;simp[eqGuard,binOp,Op.stringOp,QB];done)
        | (refine ⟨_,_,h.2,.p (.str _),?_⟩
           have h1:=h.1;simp only[maxLen] at h1;simp only[eqGuard,binOp,Op.stringOp,FZ,Sem.run_bind];simp[YF,IntKind.max,IntKind.bits,IntKind.signed];omega))
theorem TK.of_bool {u:TypeDesc} (h:TK.of u= .bool):u= .bool:=by cases u<;>simp_all [TK.of]
theorem Aa3 {op:UnOp} {x:D} {k:D→Prop} (h:unD op x k) {s:Nat→Option Sg} {vx:Value} (hx:DR F w M s x vx):
   ∃d v,k d∧DR F w M s d v∧(Op.unary op vx).run P w= .ok v w:=by
 unfold unD at h;split at h
 · cases hx with | p hx=>cases hx;exact ⟨_,_,h,.p (.bool _),by simp[Op.unary]⟩
 · cases hx with | p hx=>cases hx;exact ⟨_,_,h,.p (.int _ _),by simp[Op.unary,Op.intArith]⟩
 · exact h.elim
theorem WA {x y z:D} {k:D→Prop} (h:WB x y z k) {s:Nat→Option Sg} {vx vy vz:Value} (hx:DR F w M s x vx) (hy:DR F w M s y vy) (hz:DR F w M s z vz):
   ∃d v,k d∧DR F w M s d v∧(do pure (.value (if ←asBool vx then vy else vz)):Sem Next).run P w= .ok (.value v) w:=by
 unfold WB at h;split at h
 · rename_i t b1 b2;cases hx with | p hx=>cases hx;cases hy with | p hy=>cases hy;cases hz with | p hz=>cases hz;refine ⟨_,.bool (if t then b1 else b2),h,.p (.bool _),?_⟩;cases t<;>simp[asBool]
 · cases hx with | p hx=>
     cases hx;rename_i t _;by_cases ht:t=true
     · subst ht;exact ⟨_,_,h.1 rfl,hy,by simp[asBool]⟩
     · have ht':t=false:=by simpa using ht
       subst ht';exact ⟨_,_,h.2 rfl,hz,by simp[asBool]⟩
 · exact h.elim
theorem XK:∀{es:List (List Pd)} {l:List UInt8},Qk es=some l→l.length=es.length
 | [],l,h=>by simp[Qk] at h;subst h;rfl
 | y::r,l,h=>by
   unfold Qk at h;split at h
   · rename_i he;cases he
   · rename_i n r' he;cases he;cases hr:Qk r with
     | none=>rw[hr] at h;cases h
     | some l'=>rw[hr] at h;cases h;simp[XK hr]
   · cases h
theorem XL:∀{es:List (List Pd)} {l:List UInt8},Qk es=some l→∀(j:Nat),j<es.length→∃n:Int,es[j]?=some [.int .u8 n]∧l[j]?=some (UInt8.ofNat n.toNat)
 | [],l,h,j,hj=>by simp at hj
 | y::r,l,h,j,hj=>by
   unfold Qk at h;split at h
   · rename_i he;cases he
   · rename_i n r' he;cases he;cases hr:Qk r with
     | none=>rw[hr] at h;cases h
     | some l'=>
       rw[hr] at h;cases h;cases j with
       | zero=>exact ⟨n,rfl,rfl⟩
       | succ j=>
         obtain ⟨m,h1,h2⟩:=XL hr j (by simpa using hj);exact ⟨m,by simpa using h1,by simpa using h2⟩
   · cases h
theorem Xk {n:Nat} {p:Nat→Int→Prop} (h:∀j,j<n→∃x,p j x):∃l:List Int,l.length=n∧∀j (hj:j<l.length),p j l[j]:=by
 induction n with
 | zero=>exact ⟨[],rfl,fun j hj=>by simp at hj⟩
 | succ n ih=>
   obtain ⟨l,h1,h2⟩:=ih fun j hj=>h j (by omega);obtain ⟨x,hx⟩:=h n (by omega);refine ⟨l++[x],by simp[h1],fun j hj=>?_⟩;by_cases e:j<l.length
   · rw[List.getElem_append_left e];exact h2 j e
   · have:j=n:=by simp at hj;omega
     subst this;rw[List.getElem_append_right (by omega)]
     simpa [h1] using hx
theorem Qj (ns:List Int):ns.foldl (fun r n=>r.push (UInt8.ofNat n.toNat)) ByteArray.empty=⟨(ns.map fun n=>UInt8.ofNat n.toNat).toArray⟩:=by
 have key:∀(ns:List Int) (r:ByteArray),ns.foldl (fun r n=>r.push (UInt8.ofNat n.toNat)) r=⟨r.data++(ns.map fun n=>UInt8.ofNat n.toNat).toArray⟩:=by
   intro ns
   induction ns with
   | nil=>intro r;simp
   | cons n ns ih=>intro r;simp only[List.foldl_cons,ih];simp[ByteArray.push]
 rw[key];have he0:ByteArray.empty.data=#[]:=rfl;rw[he0];simp
theorem XQ {ts td:TypeId} {x:D} {k:D→Prop} (h:XR P ts td x k) {s:Nat→Option Sg} {vx:Value} (hx:DR F w M s x vx):
   ∃d v,k d∧DR F w M s d v∧(convert ts td vx).run P w= .ok v w:=by
 unfold XR at h;split at h
 · rename_i t1 _ _ kd _ kx n h1 h2;obtain ⟨i1,u1,_,_,Dr,_,_⟩:=Az h1;obtain ⟨i2,u2,_,_,KL,_,e2⟩:=Az h2;simp only[TI.mk.injEq] at e2;have Aq2:=TK.of_int e2.2.2.1.symm;subst Aq2;cases hx with | p hx=>
     cases hx;refine ⟨_,_,h,.p (.int _ _),?_⟩;simp only[convert,Sem.run_bind,run_underlying Dr,run_underlying KL,Result.andThen_ok,Conv.intToInt];rfl
 · rename_i t1 _ _ _ l h1 h2;obtain ⟨i1,u1,_,_,Dr,_,_⟩:=Az h1;obtain ⟨i2,u2,_,_,KL,_,e2⟩:=Az h2;simp only[TI.mk.injEq] at e2;have Aq2:=TK.of_string e2.2.2.1.symm;subst Aq2;cases hx with | p hx=>
     cases hx;refine ⟨_,_,h,.p (.str _),?_⟩;simp only[convert,Sem.run_bind,run_underlying Dr,run_underlying KL,Result.andThen_ok];cases u1<;>simp
 · rename_i t1 e _ _ _ _ es h1 h2;split at h
   case h_2=>exact h.elim
   rename_i b3 z3 l h3 h4;obtain ⟨i1,u1,_,_,Dr,_,e1⟩:=Az h1;obtain ⟨i2,u2,_,_,KL,_,e2⟩:=Az h2;obtain ⟨i3,u3,_,_,hu3,_,e3⟩:=Az h3;simp only[TI.mk.injEq] at e1 e2 e3;obtain rfl:=TK.of_slice e1.2.2.1.symm;obtain rfl:=TK.of_string e2.2.2.1.symm;obtain rfl:=TK.of_int e3.2.2.1.symm;refine ⟨_,.string ⟨l.toArray⟩,h,.p (.str l),?_⟩;cases hx with | p hx=>
     have hlen:=XK h4;cases hx with
     | Tk ad cap=>
       obtain rfl:l=[]:=by simp[Qk] at h4;exact h4
       rw[run_convert_bytes_string w ts td e ad 0 cap Dr hu3 KL];cases ad with
       | none=>simp[Conv.bytesToString];rfl
       | some ad=>
         have:=run_bytesToString (P:=P) w ad 0 cap [] (run_loadCells_list (P:=P) w ad [] (fun j v hj=>by simp at hj));rw[this];rfl
     | sl _ b off cap sz row t fr hF hh hc hs hi hp=>
       have Mc:∀(j:Nat) (hj:j<es.length),∃n:Int,w.cell? ((⟨b,off,none⟩:Addr).add j)=some (.int .u8 n)∧l[j]?=some (UInt8.ofNat n.toNat):=by
         intro j hj;obtain ⟨n,h5,h6⟩:=XL h4 j hj;have CD:sz=1:=(hs j _ h5).symm;subst CD;have h7:=hi j _ 0 (.int .u8 n) h5 rfl;have h8:=hp j _ 0 (.int .u8 n) h5 rfl;rw[Nat.mul_one,Nat.add_zero] at h7 h8;refine ⟨n,?_,h6⟩;rw[Addr.add_lit];have Ot:w.cell? ⟨b,off+j,none⟩=row[off+j]?:=by simp[World.cell?,hh]
         rw[Ot,Array.getElem?_eq_getElem h7];rw[Array.getD_eq_getD_getElem?,Array.getElem?_eq_getElem h7,Option.getD_some] at h8;generalize row[off+j]=y at h8;cases h8;rfl
       have hns:∃ns:List Int,ns.length=es.length∧∀j (hj:j<ns.length),w.cell? ((⟨b,off,none⟩:Addr).add j)=some (.int .u8 ns[j])∧l[j]?=some (UInt8.ofNat ns[j].toNat):=
         Xk (n:=es.length) (p:=fun j n=>w.cell? ((⟨b,off,none⟩:Addr).add j)=some (.int .u8 n)∧l[j]?=some (UInt8.ofNat n.toNat)) Mc
       obtain ⟨ns,W8,hn2⟩:=hns;rw[run_convert_bytes_string w ts td e _ es.length cap Dr hu3 KL];have hl:=run_loadCells_list (P:=P) w ⟨b,off,none⟩ (ns.map (Value.int .u8)) (fun j v hj=>by
         have ET:j<ns.length:=by simpa using (List.getElem?_eq_some_iff.1 hj).1
         rw[(hn2 j ET).1];simp[List.getElem?_eq_getElem ET] at hj;rw[←hj])
       simp only[List.length_map] at hl;rw[W8] at hl;have:=run_bytesToString (P:=P) w ⟨b,off,none⟩ es.length cap ns hl;rw[this];have hll:ns.map (fun n=>UInt8.ofNat n.toNat)=l:=by
         refine List.ext_getElem? fun j=>?_;by_cases hj:j<ns.length
         · rw[List.getElem?_map,List.getElem?_eq_getElem hj,(hn2 j hj).2];rfl
         · rw[List.getElem?_eq_none (by simpa using hj),List.getElem?_eq_none (by omega)]
       rw[Qj,hll]
 · exact h.elim
theorem Pb {t:TypeId} {x:D} {f:Nat} {hp:Hp} {k:D→Prop} (h:HB P t x f hp k) {vx:Value} (hx:DR F w M (sg hp) x vx):
   ∃d v,k d∧DR F w M (sg hp) d v∧(Instr.fieldAt t vx f).run P w= .ok v w:=by
 unfold HB at h;cases ht:AT P t with
 | none=>rw[ht] at h;simp at h
 | some ti=>
   obtain ⟨i,u,z,hi,hu,hz,rfl⟩:=Az ht;rw[ht] at h;try simp only at h
   split at h
   case h_2=>exact h.elim
   rename_i fs z' he;simp only[Option.some.injEq,TI.mk.injEq] at he;obtain ⟨gs,rfl,rfl⟩:=TK.of_struct he.2.2.1;rw[List.getElem?_map] at h;cases hf:gs.toList[f]? with
   | none=>rw[hf] at h;simp at h
   | some fd=>
     rw[hf] at h;simp only[Option.map_some] at h;have Zy:gs[f]?=some fd:=by simpa using hf
     cases LX:AT P fd.type with
     | none=>rw[LX] at h;exact h.elim
     | some tj=>
       rw[LX] at h;obtain ⟨i2,u2,z2,C0,_,_,rfl⟩:=Az LX;obtain ⟨BC,h⟩:=h;simp only at BC;have run:∀b off,vx= .pointer (some ⟨b,off,none⟩)→(Instr.fieldAt t vx f).run P w= .ok (.pointer (some ⟨b,off+fd.offset,none⟩)) w:=by
         rintro b off rfl;simp[Instr.fieldAt,run_underlying hu,Zy,Instr.sureAddr,fieldPlace,BE C0,BC,Addr.add_lit]
       cases x with
       | ptr id off=>
         cases hx with
         | ptr _ _ hs=>exact ⟨_,_,h,.ptr id (off+fd.offset) hs,run _ _ rfl⟩
       | pe cs=>
         cases hx with
         | pe _ b off row e fr hF hh RF hp'=>
           refine ⟨_,_,h,.pe _ b (off+fd.offset) row e fr hF hh (fun j c hj=>?_) (fun j c hj=>?_),run _ _ rfl⟩
           · rw[List.getElem?_drop] at hj;have:=RF _ c hj;omega
           · rw[List.getElem?_drop] at hj;have:=hp' _ c hj;rwa[Nat.add_assoc]
       | ea id j q N=>
         obtain ⟨hN,h⟩:=h;cases hx with
         | ea _ _ _ _ sz n v hs hle _ h2=>
           rw[hs] at hN;obtain ⟨rfl,AL⟩:=h2 hN;exact ⟨_,_,h,.ea id j (q+fd.offset) N sz n _ hs hle ⟨_,rfl⟩ (fun _=>⟨by rw[Nat.add_assoc],AL⟩),run _ _ rfl⟩
       | _=>exact h.elim
theorem Ll {t:TypeId} {i:TypeInfo} {u:TypeDesc} (hi:P.info? t=some i) (hu:P.underlying t=some u) {cs:Array Value} {off:Nat}
   (LV:(TK.of u).isAgg=false→off<cs.size):
   (part t cs off).run P w= .ok (if (TK.of u).isAgg then .agg ((cs.toList.drop off).take i.size).toArray else cs.getD off undef) w:=by
 unfold part;rw[Sem.run_bind,QW hu w];simp only[Result.andThen_ok];cases hk:(TK.of u).isAgg with
 | false=>
   have AL:=LV hk;simp[AL]
 | true=>
   simp only[if_true,BE hi w,Sem.run_bind,Result.andThen_ok,Sem.run_pure]
   congr 2
   apply Array.ext';simp[List.drop_take]
theorem Ak7 {ks:List FK} {X Y:List D} {b:Bool} (h:K9 (.int::ks) X Y=some b):∃k a c xs ys b2,X= .p (.int k a)::xs∧Y= .p (.int k c)::ys∧K9 ks xs ys=some b2∧b=(decide (a=c)&&b2):=by
 unfold K9 at h;split at h<;>try (first | (cases h;done) | (rename_i e0 _ _;cases e0;done) | (rename_i e0;cases e0;done))
 all_goals first
   | (rename_i e0
      injection e0 with e1 e2
      subst e2;split at h
      · rename_i ek;subst ek;obtain ⟨b2,h1,rfl⟩:=Option.map_eq_some_iff.1 h;exact ⟨_,_,_,_,_,b2,rfl,rfl,h1,rfl⟩
      · cases h)
   | skip
theorem Ae9 {ks:List FK} {X Y:List D} {b:Bool} (h:K9 (.bool::ks) X Y=some b):∃a c xs ys b2,X= .p (.bool a)::xs∧Y= .p (.bool c)::ys∧K9 ks xs ys=some b2∧b=((a==c)&&b2):=by
 unfold K9 at h;split at h<;>try (first | (cases h;done) | (rename_i e0 _ _;cases e0;done) | (rename_i e0;cases e0;done))
 all_goals first
   | (rename_i e0
      injection e0 with e1 e2
      subst e2;obtain ⟨b2,h1,rfl⟩:=Option.map_eq_some_iff.1 h;exact ⟨_,_,_,_,b2,rfl,rfl,h1,rfl⟩)
   | skip
theorem XS {ks:List FK} {X Y:List D} {b:Bool} (h:K9 (.str::ks) X Y=some b):∃a c xs ys b2,X= .p (.str a)::xs∧Y= .p (.str c)::ys∧K9 ks xs ys=some b2∧b=(decide (a=c)&&b2):=by
 unfold K9 at h;split at h<;>try (first | (cases h;done) | (rename_i e0 _ _;cases e0;done) | (rename_i e0;cases e0;done))
 all_goals first
   | (rename_i e0
      injection e0 with e1 e2
      subst e2;obtain ⟨b2,h1,rfl⟩:=Option.map_eq_some_iff.1 h;exact ⟨_,_,_,_,b2,rfl,rfl,h1,rfl⟩)
   | skip
theorem K2 {s:Nat→Option Sg} {vx vy:Array Value} {xs ys:List D} (hlx:vx.size=xs.length) (hly:vy.size=ys.length) (hx:∀(i:Nat) c,xs[i]?=some c→DR F w M s c (vx.getD i undef)) (hy:∀(i:Nat) c,ys[i]?=some c→DR F w M s c (vy.getD i undef)) (d:Nat):
   ∀(fs:List Field) (i:Nat) (ks:List FK) (b:Bool),Hz P i fs=some ks→K9 ks (xs.drop i) (ys.drop i)=some b→(Op.eqFields (d+1) vx vy fs).run P w= .ok b w:=by
 intro fs
 induction fs with
 | nil=>
   intro i ks b hf hc;simp only[Hz,Option.some.injEq] at hf;subst hf;cases Fk:xs.drop i<;>cases NK:ys.drop i<;>rw[Fk,NK] at hc<;>simp[K9] at hc;subst hc;rfl
 | cons f fs ih=>
   intro i ks b hf hc;simp only[Hz] at hf;split at hf
   case isFalse=>cases hf
   rename_i hn;obtain ⟨hn,Awo⟩:=hn;have P0:∀{zs:List D} {q:D} {r:List D},zs.drop i=q::r→zs[i]?=some q∧i<zs.length∧zs.drop (i+1)=r:=fun {zs q r} h=>by
     have h1:i<zs.length:=by
       by_cases h2:i<zs.length
       · exact h2
       · rw[List.drop_eq_nil_of_le (by omega)] at h;cases h
     rw[List.drop_eq_getElem_cons h1] at h;cases h;exact ⟨by simp,h1,rfl⟩
   have step:∀{u:TypeDesc} {inf:TypeInfo} (hu:P.underlying f.type=some u) (hi:P.info? f.type=some inf) (ha:(TK.of u).isAgg=false) {b1 b2:Bool} {p q:Value},
       vx.getD i undef=p→vy.getD i undef=q→i<vx.size→i<vy.size→(Op.equalIn (d+1) f.type p q).run P w= .ok b1 w→(b1=true→(Op.eqFields (d+1) vx vy fs).run P w= .ok b2 w)→
       (Op.eqFields (d+1) vx vy (f::fs)).run P w= .ok (b1&&b2) w:=by
     intro u inf hu hi ha b1 b2 p q hp hq hlx' hly' he hr;simp only[Op.eqFields,hn,ne_eq,not_false_eq_true,if_true,Sem.run_bind];rw[Ll (w:=w) hi hu (fun _=>by omega)];simp only[ha,Awo,hp,Result.andThen_ok,Bool.false_eq_true,if_false];rw[Ll (w:=w) hi hu (fun _=>by omega)];simp only[ha,hq,Result.andThen_ok,he,Bool.false_eq_true,if_false];cases b1
     · simp
     · simp[hr rfl]
   have both:∀(l:List FK) {x y:D} {xr yr:List D} {b2:Bool},xs.drop i=x::xr→ys.drop i=y::yr→Hz P (i+1) fs=some l→K9 l xr yr=some b2→(Op.eqFields (d+1) vx vy fs).run P w= .ok b2 w:=by
     intro l x y xr yr b2 Fk NK hl Vn;obtain ⟨_,_,rx⟩:=P0 Fk;obtain ⟨_,_,ry⟩:=P0 NK;exact ih (i+1) l b2 hl (by rw[rx,ry];exact Vn)
   split at hf
   · rename_i l h1 h2;simp only[Option.some.injEq] at hf;subst hf;obtain ⟨inf,u,z,hi,hu,_,e⟩:=Az h1;simp only[TI.mk.injEq] at e;obtain rfl:=TK.of_int e.2.2.1.symm;obtain ⟨k1,a1,a2,xr,yr,b2,Fk,NK,Vn,rfl⟩:=Ak7 hc;obtain ⟨gx,lx,_⟩:=P0 Fk;obtain ⟨gy,ly,_⟩:=P0 NK;have dx:=hx i _ gx;have dy:=hy i _ gy;refine step hu hi rfl (p:= .int k1 a1) (q:= .int k1 a2) ?_ ?_ (by omega) (by omega) ?_ (fun _=>both l Fk NK h2 Vn)
     · generalize vx.getD i undef=v at dx;cases dx with | p h=>cases h;rfl
     · generalize vy.getD i undef=v at dy;cases dy with | p h=>cases h;rfl
     · rw[run_equalIn_int w d f.type k1 _ a1 a2 hu,QB]
   · rename_i l h1 h2;simp only[Option.some.injEq] at hf;subst hf;obtain ⟨inf,u,z,hi,hu,_,e⟩:=Az h1;simp only[TI.mk.injEq] at e;obtain rfl:=TK.of_bool e.2.2.1.symm;obtain ⟨a1,a2,xr,yr,b2,Fk,NK,Vn,rfl⟩:=Ae9 hc;obtain ⟨gx,lx,_⟩:=P0 Fk;obtain ⟨gy,ly,_⟩:=P0 NK;have dx:=hx i _ gx;have dy:=hy i _ gy;refine step hu hi rfl (p:= .bool a1) (q:= .bool a2) ?_ ?_ (by omega) (by omega) ?_ (fun _=>both l Fk NK h2 Vn)
     · generalize vx.getD i undef=v at dx;cases dx with | p h=>cases h;rfl
     · generalize vy.getD i undef=v at dy;cases dy with | p h=>cases h;rfl
     · exact run_equalIn_bool' w d f.type a1 a2 hu
   · rename_i l h1 h2;simp only[Option.some.injEq] at hf;subst hf;obtain ⟨inf,u,z,hi,hu,_,e⟩:=Az h1;simp only[TI.mk.injEq] at e;obtain rfl:=TK.of_string e.2.2.1.symm;obtain ⟨a1,a2,xr,yr,b2,Fk,NK,Vn,rfl⟩:=XS hc;obtain ⟨gx,lx,_⟩:=P0 Fk;obtain ⟨gy,ly,_⟩:=P0 NK;have dx:=hx i _ gx;have dy:=hy i _ gy;refine step hu hi rfl (p:= .string ⟨a1.toArray⟩) (q:= .string ⟨a2.toArray⟩) ?_ ?_ (by omega) (by omega) ?_ (fun _=>both l Fk NK h2 Vn)
     · generalize vx.getD i undef=v at dx;cases dx with | p h=>cases h;rfl
     · generalize vy.getD i undef=v at dy;cases dy with | p h=>cases h;rfl
     · rw[run_equalIn_string w d f.type _ _ hu,ByteArray.toList_eq,ByteArray.toList_eq,QB]
   · cases hf
def T9 (e:TypeId) (i:Nat):Field:={name:= "x",type:=e,offset:=i,embedded:=false,tag:= "",pkgPath:= "",byteOffset:=0}
def RW (e:TypeId) (s n:Nat):List Field:=(List.range' s n).map (T9 e)
theorem run_equalIn_array {P:Program} (w:World) (d:Nat) (t e:TypeId) (n:Nat) (xs ys:Array Value) (ht:P.underlying t=some (.array n e)) {i:TypeInfo} (hi:P.info? e=some i) (hs:i.size=1):
   (Op.equalIn (d+1) t (.agg xs) (.agg ys)).run P w=(Op.eqFields d xs ys (RW e 0 n)).run P w:=by
 simp only[Op.equalIn,Sem.run_bind,run_underlying ht,Result.andThen_ok,BE hi,hs,Nat.mul_one];rw[Std.Legacy.Range.forIn_eq_forIn_range'];simp only[Std.Legacy.Range.size,Nat.sub_zero,Nat.add_sub_cancel,Nat.div_one];unfold RW;generalize List.range' 0 n=fs
 induction fs generalizing w with
 | nil=>simp[Op.eqFields]
 | cons f fs ih=>
   simp only[List.forIn_cons,List.map_cons,Op.eqFields,T9,Sem.run_bind,Sem.run_ite];rw[if_pos (by decide)];generalize (part e xs f).run P w=r1;cases r1 with
   | ok a w1=>
     simp only[Result.andThen_ok];generalize (part e ys f).run P w1=r2;cases r2 with
     | ok b w2=>
       simp only[Result.andThen_ok];generalize (Op.equalIn d e a b).run P w2=r3;cases r3 with
       | ok r w3=>
         cases r
         · simp only[Result.andThen_ok,Bool.not_false,if_true,Sem.run_pure]
         · simp only[Result.andThen_ok,Bool.not_true,Bool.false_eq_true,if_false,Sem.run_pure];exact ih w3
       | halt x w3=>simp[Result.andThen]
     | halt x w2=>simp[Result.andThen]
   | halt x w1=>simp[Result.andThen]
theorem RQ {P:Program} {e:TypeId} {k:FK} (h:∀s,Hz P s [T9 e s]=some [k]):∀n s,Hz P s (RW e s n)=some (List.replicate n k)
 | 0,s=>rfl
 | n+1,s=>by
   have h1:=h s;have h2:=RQ h n (s+1);have e1:RW e s (n+1)=T9 e s::RW e (s+1) n:=by simp[RW,List.range'_succ]
   rw[e1];simp only[Hz] at h1 ⊢;rw[h2];split at h1
   case isFalse=>cases h1
   rename_i hc;rw[if_pos hc];split at h1<;>simp_all [List.replicate_succ]
theorem Zf {P:Program} {e:TypeId} {k:FK} (h:o5 P e=some k):(∃i,P.info? e=some i∧i.size=1)∧∀s,Hz P s [T9 e s]=some [k]:=by
 unfold o5 at h;split at h
 case h_4=>cases h
 all_goals
   rename_i h1;obtain ⟨i,u,z,hi,hu,hz,e1⟩:=Az h1;simp only[TI.mk.injEq] at e1;refine ⟨⟨i,hi,e1.1.symm⟩,fun s=>?_⟩;simp only[Option.some.injEq] at h;subst h;simp[Hz,T9,h1]
theorem PY {s:Nat→Option Sg} {vx vy:Value} {t:TypeId} {xs ys:List D} {b:Bool} (h:RY P t xs ys=some b) (hx:DR F w M s (.agg xs) vx) (hy:DR F w M s (.agg ys) vy):
   P.eqGuardType P.depth t=false∧∃as bs,vx= .agg as∧vy= .agg bs∧(Op.equalIn 10000 t (.agg as) (.agg bs)).run P w= .ok b w:=by
 unfold RY Ai2 at h;obtain ⟨ks,h1,h2⟩:=Option.bind_eq_some_iff.1 h;split at h1
 case isFalse=>cases h1
 rename_i h3;split at h1
 case h_3=>cases h1
 case h_2=>
   rename_i n e hu;cases hk:o5 P e with
   | none=>rw[hk] at h1;cases h1
   | some kk=>
     rw[hk] at h1;simp only[Option.map_some,Option.some.injEq] at h1;subst h1;obtain ⟨⟨i,hi,hs⟩,M6⟩:=Zf hk;cases hx with | agg _ as hl1 h4=>
     cases hy with | agg _ bs RE h5=>
     refine ⟨h3.1,as,bs,rfl,rfl,?_⟩;rw[run_equalIn_array w 9999 t e n as bs hu hi hs];exact K2 hl1 RE h4 h5 9998 (RW e 0 n) 0 _ b (RQ M6 n 0) (by simpa using h2)
 rename_i fs hu;cases hx with | agg _ as hl1 h4=>
 cases hy with | agg _ bs RE h5=>
 refine ⟨h3.1,as,bs,rfl,rfl,?_⟩;have hf:P.fieldsOf t=fs:=by simp[Program.fieldsOf,hu]
 rw[run_equalIn_struct w 9999 t as bs (by rw[hf];exact hu) h3.2,hf];exact K2 hl1 RE h4 h5 9998 fs.toList 0 ks b h1 (by simpa using h2)
theorem X4 {op:BinOp} {x y:D} {k:D→Prop} {t:TypeId} (h:Ld P op t x y k) {s:Nat→Option Sg} {vx vy:Value} (hx:DR F w M s x vx) (hy:DR F w M s y vy) (ox oy:Operand):
   ∃d v,k d∧DR F w M s d v∧(do eqGuard op t ox oy vx vy;binOp op t vx vy:Sem Value).run P w= .ok v w:=by
 unfold Ld at h;split at h
 · rename_i p q;split at h
   · rename_i h1;obtain ⟨_,u1,_,_,Dr,_,e1⟩:=Az h1;simp only[TI.mk.injEq] at e1;obtain rfl:=TK.of_bool e1.2.2.1.symm;cases hx with | p hx=>cases hx;cases hy with | p hy=>
     cases hy;have he:(Op.equal t (.bool p) (.bool q)).run P w= .ok (p==q) w:=run_equalIn_bool' w _ t p q Dr;exact ⟨_,_,h,.p (.bool _),by simp[eqGuard,binOp,he]⟩
   · exact h.elim
 · rename_i p q;split at h
   · rename_i h1;obtain ⟨_,u1,_,_,Dr,_,e1⟩:=Az h1;simp only[TI.mk.injEq] at e1;obtain rfl:=TK.of_bool e1.2.2.1.symm;cases hx with | p hx=>cases hx;cases hy with | p hy=>
     cases hy;have he:(Op.equal t (.bool p) (.bool q)).run P w= .ok (p==q) w:=run_equalIn_bool' w _ t p q Dr;exact ⟨_,_,h,.p (.bool _),by simp[eqGuard,binOp,he]⟩
   · exact h.elim
 · rename_i xs ys;split at h
   · rename_i b he;obtain ⟨hg,as,bs,rfl,rfl,hr⟩:=PY he hx hy;refine ⟨_,_,h,.p (.bool _),?_⟩;rw[Sem.run_bind,run_eqGuard_agg w .eql t ox oy as bs hg,Result.andThen_ok,run_eql_struct w t as bs,hr];rfl
   · exact h.elim
 · rename_i xs ys;split at h
   · rename_i b he;obtain ⟨hg,as,bs,rfl,rfl,hr⟩:=PY he hx hy;refine ⟨_,_,h,.p (.bool _),?_⟩;rw[Sem.run_bind,run_eqGuard_agg w .neq t ox oy as bs hg,Result.andThen_ok,run_neq_struct w t as bs,hr];rfl
   · exact h.elim
 · rename_i es;split at h
   · rename_i e z h1;obtain ⟨BC,h⟩:=h;obtain ⟨_,u1,_,_,Dr,_,e1⟩:=Az h1;simp only[TI.mk.injEq] at e1;obtain rfl:=TK.of_slice e1.2.2.1.symm;cases hy with | cl _ ad hy hn=>
     obtain rfl:=hn rfl;cases hx with | p hx=>
     cases hx with
     | Tk _ _=>exact (BC rfl).elim
     | sl _ b off cap sz row t2 fr hF hh hc hs hi hp=>
       have he:=Lib.run_eql_slice_nil w t _ (some ⟨b,off,none⟩) es.length cap 0 0 Dr;exact ⟨_,_,h,.p (.bool _),by simpa [eqGuard] using he⟩
   · exact h.elim
 · rename_i es;split at h
   · rename_i e z h1;obtain ⟨_,u1,_,_,Dr,_,e1⟩:=Az h1;simp only[TI.mk.injEq] at e1;obtain rfl:=TK.of_slice e1.2.2.1.symm;cases hy with | cl _ ad hy hn=>
     obtain rfl:=hn rfl;cases hx with | cl _ ad2 hx hn2=>
     have he:=Lib.run_eql_slice_nil w t _ ad2 es.length es.length 0 0 Dr;have hb:ad2.isNone=es.isEmpty:=by
       cases es with
       | nil=>rw[hn2 rfl];rfl
       | cons x r=>cases hx;rfl
     rw[hb] at he;exact ⟨_,_,h,.p (.bool _),by simpa [eqGuard] using he⟩
   · exact h.elim
 · exact ZU h hx hy t ox oy
theorem Vt {t:TypeId} {x:D} {f:Nat} {k:D→Prop} (h:RU P t x f k) {s:Nat→Option Sg} {vx:Value} (hx:DR F w M s x vx):
   ∃d v,k d∧DR F w M s d v∧(Instr.field t vx f).run P w= .ok v w:=by
 unfold RU at h;cases ht:AT P t with
 | none=>rw[ht] at h;simp at h
 | some ti=>
   obtain ⟨i,u,z,hi,hu,hz,rfl⟩:=Az ht;rw[ht] at h;try simp only at h
   split at h
   case h_2=>exact h.elim
   rename_i fs z' he;simp only[Option.some.injEq,TI.mk.injEq] at he;obtain ⟨gs,rfl,rfl⟩:=TK.of_struct he.2.2.1;rw[List.getElem?_map] at h;cases hf:gs.toList[f]? with
   | none=>rw[hf] at h;simp at h
   | some fd=>
     rw[hf] at h;simp only[Option.map_some] at h;have Zy:gs[f]?=some fd:=by simpa using hf
     cases x with
     | agg cs=>
       simp only at h;cases LX:AT P fd.type with
       | none=>rw[LX] at h;exact h.elim
       | some tj=>
         rw[LX] at h;obtain ⟨i2,u2,z2,C0,KL,_,rfl⟩:=Az LX;cases hx with
         | agg _ vs hl hc=>
           obtain ⟨h1,h2,d,hk,hd⟩:=Kr (F:=F) (w:=w) (M:=M) h (s:=s) hl hc;exact ⟨d,_,hk,hd,by simp only[Instr.field,Sem.run_bind,run_underlying hu,Result.andThen_ok,Zy,asAgg,Sem.run_pure];exact Ll C0 KL h2⟩
     | _=>simp at h
theorem Vd {t:TypeId} {x y:D} {k:D→Prop} (h:Rq P t x y k) {s:Nat→Option Sg} {vx vy:Value} (hx:DR F w M s x vx) (hy:DR F w M s y vy):
   ∃d v,k d∧DR F w M s d v∧(Instr.index t vx vy).run P w= .ok v w:=by
 unfold Rq at h;split at h
 · rename_i _ _ _ l kd n h1;obtain ⟨i1,u1,_,_,Dr,_,e1⟩:=Az h1;simp only[TI.mk.injEq] at e1;have hu':=TK.of_string e1.2.2.1.symm;subst hu';cases hx with | p hx=>
     cases hx;cases hy with | p hy=>
       cases hy;obtain ⟨⟨h0,h2⟩,h⟩:=h;have AL:n.toNat<l.length:=by omega
       refine ⟨_,.int .u8 (l.getD n.toNat 0).toNat,h,.p (.int _ _),?_⟩;have hb:(⟨l.toArray⟩:ByteArray)[n.toNat]?=some (l.getD n.toNat 0):=by
         rw[ByteArray.getElem?_lt' _ _ (by simpa [ByteArray.size] using AL)];simp[List.getD,AL];rfl
       simp only[Instr.index,asIntOf,Sem.run_bind,Sem.run_pure,run_underlying Dr,Result.andThen_ok,h0,if_true,hb]
 · rename_i _ _ _ m e _ cs kd n h1;obtain ⟨i1,u1,_,_,Dr,_,e1⟩:=Az h1;simp only[TI.mk.injEq] at e1;have hu':=TK.of_array e1.2.2.1.symm;subst hu';cases LX:AT P e with
   | none=>rw[LX] at h;exact h.elim
   | some tj=>
     rw[LX] at h;obtain ⟨i2,u2,z2,C0,KL,_,rfl⟩:=Az LX;obtain ⟨⟨h0,h2⟩,h⟩:=h;cases hx with
     | agg _ vs hl hc=>
       cases hy with | p hy=>
         cases hy;obtain ⟨h3,h4,d,hk,hd⟩:=Kr (F:=F) (w:=w) (M:=M) h (s:=s) hl hc;exact ⟨d,_,hk,hd,by simp only[Instr.index,asIntOf,Sem.run_bind,Sem.run_pure,run_underlying Dr,Result.andThen_ok,h0,h2,and_self,if_true,BE C0 w];exact Ll C0 KL h4⟩
 · exact h.elim
theorem RX {x:D} {i:Nat} {k:D→Prop} (h:K1 x i k) {s:Nat→Option Sg} {vx:Value} (hx:DR F w M s x vx):
   ∃d v,k d∧DR F w M s d v∧(Instr.extract vx i).run P w= .ok v w:=by
 unfold K1 at h;split at h
 · rename_i cs;cases hx with
   | BA _ vs hl hc=>
     cases hd:cs[i]? with
     | none=>rw[hd] at h;exact h.elim
     | some d=>
       rw[hd] at h;have AL:=(List.getElem?_eq_some_iff.1 hd).1;refine ⟨d,_,h,hc i d hd,?_⟩;have:i<vs.size:=by omega
       simp[Instr.extract,this]
 · exact h.elim
end
end Go.Am
namespace Go.Am
open Go
section
variable {P:Program} {c:Ctx} {st:St} {a:Act} {w:World} {F:Nat→Prop} {M:Nat→Mb}
theorem GO {t e:TypeId} {i:TypeInfo} (hu:P.underlying t=some (.slice e)) (hi:P.info? e=some i) {ad:Addr} {len cap:Nat} {k:IntKind} {n:Int} (hn:0≤n∧n<len):
   (Instr.indexAt t (.slice (some ad) len cap) (.int k n)).run P w= .ok (.pointer (some (ad.add (n.toNat*i.size)))) w:=by
 simp[Instr.indexAt,run_underlying hu,asIntOf,hn,BE hi]
theorem Iv {t e:TypeId} {m:Nat} {i:TypeInfo} (hu:P.underlying t=some (.array m e)) (hi:P.info? e=some i) {ad:Addr} {k:IntKind} {n:Int} (hn:0≤n∧n<m):
   (Instr.indexAt t (.pointer (some ad)) (.int k n)).run P w= .ok (.pointer (some (ad.add (n.toNat*i.size)))) w:=by
 simp[Instr.indexAt,run_underlying hu,asIntOf,hn,BE hi,Instr.sureAddr]
theorem WC {es:List (List Pd)} {v:Value} (h:PR F w (.sl es) v) {n:Nat} (hn:n<es.length) {s:Nat→Option Sg}:
   ∃b off cap sz,v= .slice (some ⟨b,off,none⟩) es.length cap∧(es.getD n []).length=sz∧DR F w M s (.pe (es.getD n [])) (.pointer (some ⟨b,off+n*sz,none⟩)):=by
 cases h with
 | Tk=>simp at hn
 | sl _ b off cap sz row t fr hF hh hc hs hi hp=>
   have he:es[n]?=some (es.getD n []):=by simp[List.getD,hn]
   exact ⟨b,off,cap,sz,rfl,hs n _ he,.pe _ b (off+n*sz) row t fr hF hh (fun j c hj=>hi n _ j c he hj) (fun j c hj=>hp n _ j c he hj)⟩
theorem OU {t:TypeId} {x y:D} {hp:Hp} {k:D→Prop} (h:Hr P t x y hp k) {vx vy:Value} (hx:DR F w M (sg hp) x vx) (hy:DR F w M (sg hp) y vy):
   ∃d v,k d∧DR F w M (sg hp) d v∧(Instr.indexAt t vx vy).run P w= .ok v w:=by
 unfold Hr at h;split at h
 · rename_i _ _ _ _ e _ kd n h1;obtain ⟨i1,u1,_,_,Dr,_,e1⟩:=Az h1;simp only[TI.mk.injEq] at e1;have hu':=TK.of_slice e1.2.2.1.symm;subst hu';cases LX:AT P e with
   | none=>rw[LX] at h;exact h.elim
   | some tj=>
     rw[LX] at h;try simp only at h
     obtain ⟨i2,u2,z2,C0,KL,_,e5⟩:=Az LX;subst e5;cases hy with | p hy=>
       cases hy;split at h
       · rename_i es _;obtain ⟨hn,CD,h⟩:=h;cases hx with | p hx=>
           obtain ⟨b,off,cap,sz,rfl,h3,h4⟩:=WC (M:=M) hx (n:=n.toNat) (by omega) (s:=sg hp);have e2:sz=i2.size:=h3.symm.trans CD;subst e2;exact ⟨_,_,h,h4,by rw[GO Dr C0 hn,Addr.add_lit]⟩
       · rename_i es _;obtain ⟨hn,CD,h⟩:=h;cases hx with | cl _ ad hx _=>
           obtain ⟨b,off,cap,sz,e3,h3,h4⟩:=WC (M:=M) hx (n:=n.toNat) (by omega) (s:=sg hp);have e2:sz=i2.size:=h3.symm.trans CD;subst e2;cases e3;exact ⟨_,_,h,h4,by rw[GO Dr C0 hn,Addr.add_lit]⟩
       · rename_i id off len N;cases hx with
         | ref _ _ _ _ sz m v hs hN _ h2=>
           rw[hs] at h;simp only at h;obtain ⟨hn,rfl,rfl,h⟩:=h;obtain ⟨ad,cap,rfl,h3,h4,h5,h6⟩:=h2 rfl;have h7:ad=some ⟨(M id).BU,off*i2.size,none⟩:=h6.resolve_left (by omega);subst h7;refine ⟨_,_,h,.ea id (off+n.toNat) 0 N i2.size N _ hs (Nat.le_refl _) ⟨_,rfl⟩ (fun _=>⟨rfl,by omega⟩),?_⟩;rw[GO Dr C0 hn,Addr.add_lit];simp only[Nat.add_mul,Nat.add_zero]
       · rename_i id N;obtain ⟨hn,CD,h⟩:=h;cases hx with
         | BS _ _ sz m k v hs hN hv h2=>
           obtain ⟨ad,cp,rfl,hb⟩:=hv;obtain ⟨b,rfl⟩:=hb.resolve_left (by omega);refine ⟨_,_,h,.J6 id n.toNat N sz m k b hs hN (by omega) (fun e=>?_),?_⟩
           · obtain ⟨a2,c2,g1,g2,g3,g4,g5⟩:=h2 e;cases g1;rcases g5 with g5 | g5
             · omega
             · cases g5;exact ⟨rfl,by omega⟩
           · simp only at CD;rw[GO Dr C0 hn,Addr.add_lit,CD];simp
       · exact h.elim
 · rename_i _ _ _ _ m e _ kd n h1;obtain ⟨i1,u1,_,_,Dr,_,e1⟩:=Az h1;simp only[TI.mk.injEq] at e1;have hu':=TK.of_array e1.2.2.1.symm;subst hu';cases LX:AT P e with
   | none=>rw[LX] at h;exact h.elim
   | some tj=>
     rw[LX] at h;try simp only at h
     obtain ⟨i2,u2,z2,C0,KL,_,e5⟩:=Az LX;subst e5;cases hy with | p hy=>
       cases hy;split at h
       · rename_i _ _ _ id off e3;obtain ⟨hn,h⟩:=h;cases e3;cases hx with | ptr _ _ hs=>
           exact ⟨_,_,h,.ptr id _ hs,by rw[Iv Dr C0 hn,Addr.add_lit]⟩
       · rename_i _ _ _ cs e3;obtain ⟨hn,h⟩:=h;cases e3;cases hx with
         | pe _ b off row e fr hF hh RF hp'=>
           refine ⟨_,_,h,.pe _ b (off+n.toNat*i2.size) row e fr hF hh (fun j c hj=>?_) (fun j c hj=>?_),by rw[Iv Dr C0 hn,Addr.add_lit]⟩
           · rw[List.getElem?_drop] at hj;have:=RF _ c hj;simp only at this;omega
           · rw[List.getElem?_drop] at hj;have:=hp' _ c hj;rwa[Nat.add_assoc]
       · exact h.elim
 · exact h.elim
def QD (a:Act) (o:Option Operand) (Vx n:Int):Prop:=(o=none∧n=Vx)∨∃x kd,o=some x∧a.eval x= .int kd n
theorem Cv (hr:Rel c st a w F M) {o:Option Operand} {Vx:Int} {k:Int→Prop} (h:C8 st o Vx k):∃n,k n∧QD a o Vx n:=by
 unfold C8 at h;cases o with
 | none=>exact ⟨Vx,h,.inl ⟨rfl,rfl⟩⟩
 | some x=>
   simp only at h;have hx:=AF hr x;split at h
   · rename_i kd n he;rw[he] at hx;generalize hv:a.eval x=v at hx;cases hx with | p hx=>exact ⟨n,h,.inr ⟨x,kd,rfl,by cases hx;exact hv⟩⟩
   · exact h.elim
theorem Mo {isSlice:Bool} {len cap:Nat} {lo hi:Option Operand} {x y:Int} (Yt:QD a lo 0 x) (hhi:QD a hi len y) (h0:0≤x) (h1:x≤y) (h2:y≤cap):
   (Instr.sliceBounds isSlice len cap (lo.map a.eval) (hi.map a.eval) none).run P w= .ok (x.toNat,y.toNat,cap) w:=by
 have hy:((y.toNat:Nat):Int)=y:=by omega
 have Yj:0≤y:=by omega
 have hm:max y 0=y:=by omega
 rcases hhi with ⟨rfl,rfl⟩ | ⟨q,kq,rfl,hq⟩<;>rcases Yt with ⟨rfl,rfl⟩ | ⟨q',kq',rfl,Yr⟩
 · simp[Instr.sliceBounds]
 · simp[Instr.sliceBounds,Instr.sliceBound,asIntOf,h0,h1,Yr]
 · simp[Instr.sliceBounds,Instr.sliceBound,asIntOf,h2,hq,Yj]
 · simp[Instr.sliceBounds,Instr.sliceBound,asIntOf,h0,h1,h2,hq,Yr,Yj,hm]
theorem Ww {len cap:Nat} {lo:Option Operand} {hi mx:Operand} {x y:Int} {kh kx:IntKind} (Yt:QD a lo 0 x)
   (hhi:a.eval hi= .int kh y) (hmx:a.eval mx= .int kx y) (h0:0≤x) (h1:x≤y) (h2:y≤cap):
   (Instr.sliceBounds true len cap (lo.map a.eval) ((some hi).map a.eval) ((some mx).map a.eval)).run P w= .ok (x.toNat,y.toNat,y.toNat) w:=by
 have hy:((y.toNat:Nat):Int)=y:=by omega
 have Yj:0≤y:=by omega
 have hm:max y 0=y:=by omega
 rcases Yt with ⟨rfl,rfl⟩ | ⟨q',kq',rfl,Yr⟩
 · simp[Instr.sliceBounds,Instr.sliceBound,asIntOf,h2,hhi,hmx,Yj,hm]
 · simp[Instr.sliceBounds,Instr.sliceBound,asIntOf,h0,h1,h2,hhi,hmx,Yr,Yj,hm]
theorem H8 {α:Type} (es:List α) (x y i:Nat):((es.take y).drop x)[i]?=if x+i<y then es[x+i]? else none:=by
 rw[List.getElem?_drop,List.getElem?_take]
theorem PR.part {es:List (List Pd)} {len cap:Nat} {ad:Option Addr} (h:PR F w (.sl es) (.slice ad len cap)) {x y m sz:Nat} (hx:x≤y) (hy:y≤es.length) (hm:y≤m) (hc:m≤cap)
   (CD:∀(i:Nat) e,es[i]?=some e→e.length=sz):
   PR F w (.sl ((es.take y).drop x)) (.slice (if m=x then ad else ad.map (·.add (x*sz))) (y - x) (m - x)):=by
 have hlen:((es.take y).drop x).length=y - x:=by simp;omega
 by_cases h0:y - x=0
 · have:(es.take y).drop x=[]:=List.eq_nil_of_length_eq_zero (by omega);rw[this,h0];exact .Tk _ _
 · cases h with
   | Tk=>simp at hy;omega
   | sl _ b off cap Pv row t fr hF hh hc' hs hi hp=>
     have e1:es[0]?=some (es.getD 0 []):=by
       have:0<es.length:=by omega
       simp[List.getD,this]
     have e2:Pv=sz:=(hs 0 _ e1).symm.trans (CD 0 _ e1);subst e2;rw[if_neg (by omega)];simp only[Option.map_some,Addr.add_lit];rw[←hlen];refine .sl _ b (off+x*Pv) (m - x) Pv row t fr hF hh (by omega) (fun i e he=>?_) (fun i e j q he hj=>?_) (fun i e j q he hj=>?_)
     · rw[H8] at he;split at he
       · exact hs _ _ he
       · cases he
     · rw[H8] at he;split at he
       · have:=hi _ _ j q he hj;rw[Nat.add_mul] at this;omega
       · cases he
     · rw[H8] at he;split at he
       · have:=hp _ _ j q he hj;rw[Nat.add_mul] at this;rwa[show off+x*Pv+i*Pv+j=off+(x*Pv+i*Pv)+j from by omega]
       · cases he
theorem I8 {t e:TypeId} {i:TypeInfo} (hu:P.underlying t=some (.slice e)) (hi:P.info? e=some i) {ad:Option Addr} {len cap:Nat} {lo RF mx:Option Value} {x y m:Nat}
   (hb:(Instr.sliceBounds true len cap lo RF mx).run P w= .ok (x,y,m) w):
   (Instr.sliceAt t (.slice ad len cap) lo RF mx).run P w= .ok (.slice (if m=x then ad else ad.map (·.add (x*i.size))) (y - x) (m - x)) w:=by
 simp[Instr.sliceAt,Instr.slice,run_underlying hu,hb,BE hi]
theorem UM (hr:Rel c st a w F M) {t:TypeId} {x:D} {lo hi mx:Option Operand} {k:D→Prop} (h:QS P st t x lo hi mx k) {vx:Value} (hx:DR F w M (sg st.hp) x vx):
   ∃d v,k d∧DR F w M (sg st.hp) d v∧(Instr.sliceAt t vx (lo.map a.eval) (hi.map a.eval) (mx.map a.eval)).run P w= .ok v w:=by
 unfold QS at h;split at h
 · rename_i _ _ _ l h1;obtain ⟨i1,u1,_,_,Dr,_,e1⟩:=Az h1;simp only[TI.mk.injEq] at e1;have hu':=TK.of_string e1.2.2.1.symm;subst hu';obtain ⟨hmx,h⟩:=h;have Aqg:mx=none:=by simpa using hmx
   subst Aqg;obtain ⟨x,h,Yt⟩:=Cv hr h;obtain ⟨y,h,hhi⟩:=Cv hr h;obtain ⟨⟨h0,h2,h3⟩,h⟩:=h;cases hx with | p hx=>
     cases hx;have hb:=Mo (P:=P) (w:=w) (isSlice:=false) (len:=(⟨l.toArray⟩:ByteArray).size) (cap:=(⟨l.toArray⟩:ByteArray).size) Yt (by rw[FZ];exact hhi) h0 h2 (by rw[FZ];exact h3);refine ⟨_,_,h,.p (.str _),?_⟩;simp only[Instr.sliceAt,Instr.slice,Sem.run_bind,run_underlying Dr,Result.andThen_ok,Option.map_none,Option.isSome_none,Bool.false_eq_true,if_false,Sem.run_ite,hb,Sem.run_pure]
     congr 2
     apply ByteArray.ext;apply Array.ext';simp[List.drop_take]
 · rename_i _ _ _ _ e _ h1;obtain ⟨i1,u1,_,_,Dr,_,e1⟩:=Az h1;simp only[TI.mk.injEq] at e1;have hu':=TK.of_slice e1.2.2.1.symm;subst hu';cases LX:AT P e with
   | none=>rw[LX] at h;exact h.elim
   | some tj=>
     rw[LX] at h;obtain ⟨i2,u2,z2,C0,KL,_,rfl⟩:=Az LX;simp only at h;split at h
     · rename_i es;cases hx with | p hx=>
         split at h
         · obtain ⟨x,h,Yt⟩:=Cv hr h;obtain ⟨y,h,hhi⟩:=Cv hr h;obtain ⟨⟨h0,h2,h3⟩,CD,h⟩:=h;have Rx:=hx;have hv:∃ad cap,vx= .slice ad es.length cap∧es.length≤cap:=by
             cases hx with
             | Tk ad cap=>exact ⟨_,_,rfl,by simp⟩
             | sl _ b off cap sz row t fr hF hh hc=>exact ⟨_,_,rfl,hc⟩
           obtain ⟨ad,cap,rfl,Hx⟩:=hv;have hb:=Mo (P:=P) (w:=w) (isSlice:=true) (len:=es.length) (cap:=cap) Yt hhi h0 h2 (by omega);refine ⟨_,_,h,.p (Rx.part (x:=x.toNat) (y:=y.toNat) (m:=cap) (by omega) (by omega) (by omega) (Nat.le_refl _) CD),?_⟩;exact I8 Dr C0 hb
         · rename_i mq;obtain ⟨x,h,Yt⟩:=Cv hr h;obtain ⟨y,h,hhi⟩:=Cv hr h;obtain ⟨q,h,hmx⟩:=Cv hr h;obtain ⟨⟨h0,h2,rfl,h3⟩,CD,Asy,hk⟩:=h;have Rx:=hx;have hv:∃ad cap,vx= .slice ad es.length cap∧es.length≤cap:=by
             cases hx with
             | Tk ad cap=>exact ⟨_,_,rfl,by simp⟩
             | sl _ b off cap sz row t fr hF hh hc=>exact ⟨_,_,rfl,hc⟩
           obtain ⟨ad,cap,rfl,Hx⟩:=hv;obtain ⟨_,kq,e6,hq⟩:=hmx.resolve_left (by simp);cases e6;cases hi with
           | none=>simp at Asy
           | some hi=>
             obtain ⟨_,kh,e7,hh⟩:=hhi.resolve_left (by simp);cases e7;have hb:=Ww (P:=P) (w:=w) (len:=es.length) (cap:=cap) Yt hh hq h0 h2 (by omega);have hp:=Rx.part (x:=x.toNat) (y:=y.toNat) (m:=y.toNat) (by omega) (by omega) (Nat.le_refl _) (by omega) CD;have hlen:((es.take y.toNat).drop x.toNat).length=y.toNat - x.toNat:=by simp;omega
             refine ⟨_,_,hk,?_,I8 Dr C0 hb⟩;rw[←hlen] at hp ⊢;exact .cz _ _ hp
     · rename_i id off len N;cases hx with
       | ref _ _ _ _ sz m v hs hN _ h2=>
         rw[hs] at h;simp only at h;obtain ⟨hmx,rfl,h⟩:=h;have Aqg:mx=none:=by simpa using hmx
         subst Aqg;obtain ⟨x,h,Yt⟩:=Cv hr h;obtain ⟨y,h,hhi⟩:=Cv hr h;obtain ⟨⟨h0,h5,h6⟩,h⟩:=h;obtain ⟨rfl,hk⟩:=h;obtain ⟨ad,cap,rfl,h7,h8,h9,Lx⟩:=h2 rfl;have hb:=Mo (P:=P) (w:=w) (isSlice:=true) (len:=len) (cap:=cap) Yt hhi h0 h5 (by omega);refine ⟨_,_,hk,?_,I8 Dr C0 hb⟩;refine .ref id (off+x.toNat) (y - x).toNat N i2.size N _ hs (Nat.le_refl _) ⟨_,_,_,rfl⟩ (fun _=>?_);have e3:(y - x).toNat=y.toNat - x.toNat:=by omega
         rw[e3];refine ⟨_,_,rfl,by omega,by omega,by omega,?_⟩;by_cases hc:cap=x.toNat
         · left;omega
         · right;rw[if_neg hc];have Yw:=Lx.resolve_left (by omega);rw[Yw];simp only[Option.map_some,Addr.add_lit,Nat.add_mul]
     · exact h.elim
 · exact h.elim
def G0 (F:Nat→Prop) (w:World) (M:Nat→Mb) (s:Nat→Option Sg) (cs:List D) (vs:List Value):Prop:=
 vs.length=cs.length∧∀(i:Nat) c,cs[i]?=some c→DR F w M s c (vs.getD i undef)
theorem G0.append {s:Nat→Option Sg} {cs cs':List D} {vs vs':List Value} (h:G0 F w M s cs vs) (h':G0 F w M s cs' vs'):G0 F w M s (cs++cs') (vs++vs'):=by
 refine ⟨by simp[h.1,h'.1],fun i c hc=>?_⟩;rw[List.getElem?_append] at hc;have h1:=h.1;split at hc
 · rename_i AL;have:=h.2 i c hc;rw[List.getD_eq_getElem?_getD] at this ⊢;rwa[List.getElem?_append_left (by omega)]
 · rename_i hge;have:=h'.2 _ c hc;rw[List.getD_eq_getElem?_getD] at this ⊢;rwa[List.getElem?_append_right (by omega),h1]
theorem G0.take {s:Nat→Option Sg} {cs:List D} {vs:List Value} (h:G0 F w M s cs vs) (n:Nat):G0 F w M s (cs.take n) (vs.take n):=by
 refine ⟨by simp[h.1],fun i c hc=>?_⟩;rw[List.getElem?_take] at hc;split at hc
 · rename_i AL;have:=h.2 i c hc;rw[List.getD_eq_getElem?_getD] at this ⊢;rwa[List.getElem?_take,if_pos AL]
 · cases hc
theorem G0.drop {s:Nat→Option Sg} {cs:List D} {vs:List Value} (h:G0 F w M s cs vs) (n:Nat):G0 F w M s (cs.drop n) (vs.drop n):=by
 refine ⟨by simp[h.1],fun i c hc=>?_⟩;rw[List.getElem?_drop] at hc;have:=h.2 _ c hc;rw[List.getD_eq_getElem?_getD] at this ⊢;rwa[List.getElem?_drop]
theorem DR.cells {s:Nat→Option Sg} {d:D} {v:Value} (h:DR F w M s d v) (hb:d.cells.all D.one=true∨∃cs,d= .agg cs):G0 F w M s d.cells v.cells.toList:=by
 have one:∀{d:D} {v:Value},DR F w M s d v→v.cells=#[v]→d.cells=[d]→G0 F w M s d.cells v.cells.toList:=by
   intro d v h e1 e2;rw[e1,e2];refine ⟨by simp,fun i c hc=>?_⟩;cases i with
   | zero=>simp only[List.getElem?_cons_zero,Option.some.injEq] at hc;subst hc;simpa [List.getD] using h
   | succ i=>simp at hc
 cases h with
 | p h=>refine one (.p h) ?_ rfl;cases h<;>rfl
 | agg cs vs hl hc=>exact ⟨by simp[Value.cells,D.cells,hl],fun i c h=>by have:=hc i c h;simpa [Value.cells,List.getD,Array.getD_eq_getD_getElem?] using this⟩
 | BA cs vs hl hc=>rcases hb with hb | ⟨_,hb⟩<;>simp[D.cells,D.one] at hb
 | cl es ad h hn=>exact one (.cl es ad h hn) rfl rfl
 | cz es ad h=>exact one (.cz es ad h) rfl rfl
 | ref id off len N sz n v hs hN hv h=>obtain ⟨_,_,_,rfl⟩:=hv;exact one (.ref id off len N sz n _ hs hN ⟨_,_,_,rfl⟩ h) rfl rfl
 | ptr id off hs=>exact one (.ptr id off hs) rfl rfl
 | pe cs b off row t fr hF hh hi hp=>exact one (.pe cs b off row t fr hF hh hi hp) rfl rfl
 | ea id i c N sz n v hs hN hv h=>obtain ⟨_,rfl⟩:=hv;exact one (.ea id i c N sz n _ hs hN ⟨_,rfl⟩ h) rfl rfl
 | fn f cap vs hl h=>exact one (.fn f cap vs hl h) rfl rfl
 | np=>exact one .np rfl rfl
 | mv id hs=>exact one (.mv id hs) rfl rfl
 | BS id n sz m k v hs hN hv h=>obtain ⟨_,_,rfl,hx⟩:=hv;exact one (.BS id n sz m k _ hs hN ⟨_,_,rfl,hx⟩ h) rfl rfl
 | J6 id i n sz m k b hs hN hi h=>exact one (.J6 id i n sz m k b hs hN hi h) rfl rfl
 | nr id i len q sz m k v hs hN hv h=>obtain ⟨_,_,rfl⟩:=hv;exact one (.nr id i len q sz m k _ hs hN ⟨_,_,rfl⟩ h) rfl rfl
 | Pu v h=>exact one (.Pu v h) (by cases v<;>first | rfl | (simp[Value.oneCell'] at h)) rfl
 | bad v=>rcases hb with hb | ⟨_,hb⟩<;>simp[D.cells,D.one] at hb
end
end Go.Am
namespace Go.Am
open Go
section
variable {P:Program} {c:Ctx} {st:St} {a:Act} {w:World} {F:Nat→Prop} {M:Nat→Mb}
theorem Xj (off:Nat):∀(l:List Value) (k:Nat) (cells:Array Value),off+k+l.length≤cells.size→
   ((l.zipIdx k).foldl (fun cs q=>cs.setIfInBounds (off+q.2) q.1) cells).toList=cells.toList.take (off+k)++l++cells.toList.drop (off+k+l.length)
 | [],k,cells,_=>by simp
 | v::l,k,cells,h=>by
   simp only[List.length_cons] at h;simp only[List.zipIdx_cons,List.foldl_cons];rw[Xj off l (k+1) _ (by simp;omega)];simp only[Array.toList_setIfInBounds,List.length_cons];have e1:(cells.toList.set (off+k) v).take (off+(k+1))=cells.toList.take (off+k)++[v]:=by
     rw[show off+(k+1)=(off+k)+1 from by omega,List.take_add_one,List.getElem?_set_self (by simp;omega),List.take_set_of_le (by omega)];rfl
   have e2:(cells.toList.set (off+k) v).drop (off+(k+1)+l.length)=cells.toList.drop (off+k+(l.length+1)):=by
     rw[List.drop_set_of_lt (by omega)]
     congr 1
     omega
   rw[e1,e2];simp
theorem MI (hr:Rel c st a w F M) (place:Nat→Option (Nat×Nat)):∀(parts:List (Nat×Operand)) (cs:List D) (vs:Array Value) (cs':List D),G0 F w M (sg st.hp) cs vs.toList→
   Ee place cs (parts.map fun q=>(q.1,ev st q.2))=some cs'→∃vs',Instr.fill place vs (parts.map fun q=>(q.1,a.eval q.2))=some vs'∧G0 F w M (sg st.hp) cs' vs'.toList
 | [],cs,vs,cs',h,hf=>by
   simp only[List.map_nil,Ee,Option.some.injEq] at hf;subst hf;exact ⟨vs,by simp[Instr.fill],h⟩
 | (i,x)::parts,cs,vs,cs',h,hf=>by
   simp only[List.map_cons,Ee] at hf;cases hp:place i with
   | none=>rw[hp] at hf;simp at hf
   | some q=>
     obtain ⟨off,size⟩:=q;rw[hp] at hf;simp only at hf;split at hf
     case isFalse=>cases hf
     rename_i hc;obtain ⟨h1,h2,h3⟩:=hc;have hx:=(AF hr x).cells (.inl h3);have CD:(a.eval x).cells.size=size:=by have:=hx.1;simp at this;omega
     have hvs:vs.size=cs.length:=by have:=h.1;simpa using this
     obtain ⟨vs',h4,h5⟩:=MI hr place parts _ ((a.eval x).cells.zipIdx.foldl (fun cs q=>cs.setIfInBounds (off+q.2) q.1) vs) cs' (by
       rw[←Array.foldl_toList,Array.toList_zipIdx,Xj off _ 0 vs (by simp;omega)];simp only[Nat.add_zero,Array.length_toList,CD];exact ((h.take off).append hx).append (h.drop (off+size))) hf
     refine ⟨vs',?_,h5⟩;simp only[List.map_cons,Instr.fill,hp,CD];rw[if_neg (by simp;omega)];exact h4
theorem L5:∀(fs:List Field) (pl:List (Nat×Nat)),Jf P (fs.map fun f=>(f.offset,f.type))=some pl→
   fs.mapM (fun f=>(P.info? f.type).map fun i=>(f.offset,i.size))=some pl
 | [],pl,h=>by simp[Jf] at h;subst h;rfl
 | f::fs,pl,h=>by
   simp only[List.map_cons,Jf] at h;split at h
   · rename_i ti l h1 h2;obtain ⟨i,u,z,hi,_,_,rfl⟩:=Az h1;cases h;simp[L5 fs l h2,hi]
   · cases h
theorem Z0 {z:Value} {zs:List D} (h:GS z= .agg zs):∃cs,z= .agg cs:=by
 cases z<;>first
   | exact ⟨_,rfl⟩
   | (simp[GS] at h;done)
   | (rename_i q;cases q<;>simp[GS] at h;done)
   | (rename_i ad l q;cases ad<;>(try cases l)<;>(try cases q)<;>simp[GS] at h)
theorem VK (hr:Rel c st a w F M) {t:TypeId} {parts:Array (Nat×Operand)} {k:D→Prop} (h:Sn P st t parts.toList k):
   ∃d v,k d∧DR F w M (sg st.hp) d v∧(Instr.build t (parts.map fun (i,x)=>(i,a.eval x))).run P w= .ok v w:=by
 have Aqd:(parts.map fun (i,x)=>(i,a.eval x)).toList=parts.toList.map fun q=>(q.1,a.eval q.2):=by simp
 have key:∀(place:Nat→Option (Nat×Nat)) (z:Value) (zs cs:List D),GS z= .agg zs→Ee place zs (parts.toList.map fun q=>(q.1,ev st q.2))=some cs→
     ∃vs,Instr.fill place z.cells (parts.map fun (i,x)=>(i,a.eval x)).toList=some vs∧DR F w M (sg st.hp) (.agg cs) (.agg vs):=by
   intro place z zs cs hz hf;obtain ⟨qs,rfl⟩:=Z0 hz;have h0:=(Iy F w M (sg st.hp) (.agg qs)).cells (.inr ⟨_,hz⟩);rw[hz] at h0;obtain ⟨vs,h1,h2⟩:=MI hr place parts.toList zs qs cs h0 hf;exact ⟨vs,by rw[Aqd];exact h1,.agg _ _ (by simpa using h2.1) (fun i c hc=>by have:=h2.2 i c hc;simpa [List.getD,Array.getD_eq_getD_getElem?] using this)⟩
 unfold Sn at h;split at h
 · rename_i _ _ _ fs zd h1;obtain ⟨i1,u1,z1,HP,Dr,hz1,e1⟩:=Az h1;simp only[TI.mk.injEq] at e1;obtain ⟨_,_,e2,rfl⟩:=e1;obtain ⟨gs,rfl,rfl⟩:=TK.of_struct e2.symm;split at h
   case h_2=>exact h.elim
   rename_i pl zs hpl hz;split at h
   case h_2=>exact h.elim
   rename_i cs hf;obtain ⟨vs,h2,h3⟩:=key _ z1 zs cs hz hf;refine ⟨_,_,h,h3,run_build w t _ vs ?_⟩;unfold Program.built;simp only[HP,Dr,hz1,L5 _ _ hpl]
   simpa using h2
 · rename_i _ _ _ m e zd h1;obtain ⟨i1,u1,z1,HP,Dr,hz1,e1⟩:=Az h1;simp only[TI.mk.injEq] at e1;obtain ⟨_,_,e2,rfl⟩:=e1;obtain rfl:=TK.of_array e2.symm;split at h
   case h_2=>exact h.elim
   rename_i tj zs LX hz;obtain ⟨i2,u2,z2,C0,KL,_,rfl⟩:=Az LX;split at h
   case h_2=>exact h.elim
   rename_i cs hf;obtain ⟨vs,h2,h3⟩:=key _ z1 zs cs hz hf;refine ⟨_,_,h,h3,run_build w t _ vs ?_⟩;unfold Program.built;simp only[HP,Dr,hz1,C0,h2]
 · exact h.elim
theorem Pd.QU {kk:KK} {key q:Pd} {d:TypeDesc} (hd:match kk with | .int x=>d= .int x | .str=>d= .string) (hf:kk.fit key=true) {b:Bool} (h:Pd.same key q=some b):Instr.sameNow d key.val q.val=some b:=by
 cases kk with
 | int x=>
   simp only at hd;subst hd;cases key<;>simp[KK.fit] at hf;cases q<;>simp[Pd.same] at h;simp only[Pd.val,Instr.sameNow];obtain ⟨h1,h2⟩:=h;rw[if_pos h1,h2]
 | str=>
   simp only at hd;subst hd;cases key<;>simp[KK.fit] at hf;cases q<;>simp[Pd.same] at h;simp only[Pd.val,Instr.sameNow,Option.some.injEq];rw[←h,Bool.eq_iff_iff];rw[MapKept.bytes_beq];constructor
   · intro h3;have h4:=congrArg (fun z:ByteArray=>z.data.toList) h3
     simpa using h4
   · intro h3;have h4:=eq_of_beq h3;rw[h4]
theorem Pd.All {a b:Pd} (h:Pd.same a b=some true):a.val=b.val:=by
 cases a<;>cases b<;>simp[Pd.same] at h
 · obtain ⟨rfl,rfl⟩:=h;rfl
 · subst h;rfl
theorem Kz {kk:KK} {key:Pd} {d:TypeDesc} (hd:match kk with | .int x=>d= .int x | .str=>d= .string) (hf:kk.fit key=true):
   ∀(es:List MapEntry) (l:List (Pd×Pd)) (n:Nat),es.map (fun e=>(e.key,e.val))=l.map (fun p=>(p.1.val,p.2.val))→OQ key l→
     (∃v i,Rd key l=some v∧Instr.findNow d key.val es n=some (some (n+i,v.val))∧v∈l.map (·.2)∧(∃e,es[i]?=some e∧e.key=key.val)∧
       ∀x:Pd,(es.modify i fun e=>{e with key:=key.val,val:=x.val}).map (fun e=>(e.key,e.val))=(IB key x l).map (fun p=>(p.1.val,p.2.val)))∨
     (Rd key l=none∧Instr.findNow d key.val es n=some none∧∀x,IB key x l=l++[(key,x)])
 | [],[],n,_,_=> .inr ⟨rfl,rfl,fun _=>rfl⟩
 | [],_::_,n,h,_=>by simp at h
 | _::_,[],n,h,_=>by simp at h
 | e::es,(q,v)::l,n,h,hm=>by
   simp only[List.map_cons,List.cons.injEq,Prod.mk.injEq] at h;obtain ⟨⟨h1,h2⟩,h3⟩:=h;unfold OQ JS at hm;cases hs:Pd.same key q with
   | none=>rw[hs] at hm;simp at hm
   | some b=>
     have hn:=Pd.QU hd hf hs;cases b with
     | true=>exact .inl ⟨v,0,by simp[Rd,JS,hs],by simp[Instr.findNow,h1,hn,h2],by simp,⟨e,rfl,h1.trans (Pd.All hs).symm⟩,fun x=>by simp[IB,hs,h3]⟩
     | false=>
       rw[hs] at hm;rcases Kz hd hf es l (n+1) h3 hm with ⟨v',i,g1,g2,g3,⟨e',g4,g5⟩,g6⟩ | ⟨g1,g2,g3⟩
       · refine .inl ⟨v',i+1,?_,?_,List.mem_cons_of_mem _ g3,⟨e',by simpa using g4,g5⟩,fun x=>by simp[IB,hs,h1,h2,g6 x]⟩
         · unfold Rd at g1 ⊢;simp only[JS,hs];exact g1
         · simp only[Instr.findNow,h1,hn,g2];congr 3;omega
       · refine .inr ⟨?_,?_,fun x=>by simp[IB,hs,g3 x]⟩
         · unfold Rd at g1 ⊢;simp only[JS,hs];exact g1
         · simp only[Instr.findNow,h1,hn,g2]
theorem Jh {t:TypeId} {kk:KK} {z:Pd} (h:mapOf P t=some (kk,z)):∃kt e d i zv,P.underlying t=some (.map kt e)∧P.underlying kt=some d∧(match kk with | .int x=>d= .int x | .str=>d= .string)∧
   P.info? e=some i∧i.zero=some zv∧zv=z.val∧z.flat=true:=by
 unfold mapOf at h;split at h
 case h_2=>cases h
 rename_i kt e hu;have hz:∀{zv:Value} {y:Pd},pdV zv=some y→zv=y.val∧y.flat=true:=by
   intro zv y hy;cases zv<;>simp[pdV] at hy<;>subst hy<;>simp[Pd.val,Pd.flat]
 split at h
 · rename_i q zv hk hi;cases C0:P.info? e with
   | none=>rw[C0] at hi;cases hi
   | some i=>
     rw[C0] at hi;cases hp:pdV zv with
     | none=>rw[hp] at h;cases h
     | some y=>rw[hp] at h;cases h;exact ⟨kt,e,_,i,zv,hu,hk,rfl,C0,hi,hz hp⟩
 · rename_i zv hk hi;cases C0:P.info? e with
   | none=>rw[C0] at hi;cases hi
   | some i=>
     rw[C0] at hi;cases hp:pdV zv with
     | none=>rw[hp] at h;cases h
     | some y=>rw[hp] at h;cases h;exact ⟨kt,e,_,i,zv,hu,hk,rfl,C0,hi,hz hp⟩
 · cases h
theorem OT {kk:KK} {key:Pd} {d:TypeDesc} (hd:match kk with | .int x=>d= .int x | .str=>d= .string) (hf:kk.fit key=true):MapKept.IsKey d key.val:=by
 cases kk with
 | int x=>simp only at hd;subst hd;cases key<;>simp[KK.fit] at hf;exact hf
 | str=>simp only at hd;subst hd;cases key<;>simp[KK.fit] at hf;trivial
theorem SU (hr:Rel c st a w F M) {t:TypeId} {x i:D} {ok:Bool} {k:D→Prop} (h:NA P st.hp t x i ok k) {vx vi:Value} (hx:DR F w M (sg st.hp) x vx) (hi:DR F w M (sg st.hp) i vi):
   ∃d v,k d∧DR F w M (sg st.hp) d v∧(Instr.lookup t vx vi ok).run P w= .ok v w:=by
 unfold NA at h;split at h
 case h_2=>exact h.elim
 rename_i _ _ _ kk z id key hm;obtain ⟨kt,e,d,ii,zv,hu,hk,hd,C0,hz,rfl,hzf⟩:=Jh hm;split at h
 case h_2=>exact h.elim
 rename_i l hg;obtain ⟨⟨hf,LX⟩,hkk⟩:=h;obtain ⟨_,⟨es,clock,hb,HQ⟩,M6⟩:=hr.heap.obj id _ hg;cases hx with
 | mv _ hs=>
   cases hi with
   | p hi=>
     have hvi:vi=key.val:=by cases hi<;>first | rfl | (cases kk<;>simp[KK.fit] at hf)
     subst hvi;have hc:∀b,(Instr.checkKey b 10000 kt key.val).run P w= .ok () w:=fun b=>MapKept.run_checkKey hk (OT hd hf) b 9999;have hzv:(zeroValue e).run P w= .ok z.val w:=by simp[zeroValue,typeInfo,C0,hz]
     rcases Kz hd hf es.toList l 0 HQ LX with ⟨v,j,g1,g2,g3,_⟩ | ⟨g1,g2,_⟩
     · rw[g1] at hkk;have hvf:v.flat=true:=by obtain ⟨p,hp,rfl⟩:=List.mem_map.1 g3;exact M6 p hp
       cases ok with
       | true=>
         refine ⟨_,_,hkk,.BA _ #[v.val,.bool true] rfl (fun j c hj=>?_),?_⟩
         · rcases j with _ | _ | j
           · simp at hj;subst hj;exact .p (PR.flat hvf)
           · simp at hj;subst hj;exact .p (.bool true)
           · simp at hj
         · simp[Instr.lookup,run_underlying hu,MapKept.run_getObj_map hb,hc,MapKept.run_findKey hk g2,Result.andThen]
       | false=>exact ⟨_,v.val,hkk,.p (PR.flat hvf),by simp[Instr.lookup,run_underlying hu,MapKept.run_getObj_map hb,hc,MapKept.run_findKey hk g2,Result.andThen]⟩
     · rw[g1] at hkk;cases ok with
       | true=>
         refine ⟨_,_,hkk,.BA _ #[z.val,.bool false] rfl (fun j c hj=>?_),?_⟩
         · rcases j with _ | _ | j
           · simp at hj;subst hj;exact .p (PR.flat hzf)
           · simp at hj;subst hj;exact .p (.bool false)
           · simp at hj
         · simp[Instr.lookup,run_underlying hu,MapKept.run_getObj_map hb,hc,MapKept.run_findKey hk g2,hzv,Result.andThen]
       | false=>exact ⟨_,z.val,hkk,.p (PR.flat hzf),by simp[Instr.lookup,run_underlying hu,MapKept.run_getObj_map hb,hc,MapKept.run_findKey hk g2,hzv,Result.andThen]⟩
theorem Td (hr:Rel c st a w F M) {o:Oper} {k:D→Prop} (h:vOp P st o.op k):
   ∃d v,k d∧DR F w M (sg st.hp) d v∧(execOp a.eval o).run P w= .ok (.value v) w:=by
 have wrap:∀(s:Sem Value),(∃d v,k d∧DR F w M (sg st.hp) d v∧s.run P w= .ok v w)→execOp a.eval o=(do pure (.value (←s)):Sem Next)→
     ∃d v,k d∧DR F w M (sg st.hp) d v∧(execOp a.eval o).run P w= .ok (.value v) w:=by
   rintro s ⟨d,v,h1,h2,h3⟩ e;exact ⟨d,v,h1,h2,by rw[e];simp[h3]⟩
 unfold vOp at h;split at h
 · rename_i x ho;exact ⟨_,_,h,AF hr x,by simp[execOp,ho]⟩
 · rename_i x ho;exact ⟨_,_,h,AF hr x,by simp[execOp,ho]⟩
 · rename_i x y z ho;obtain ⟨d,v,h1,h2,h3⟩:=WA (P:=P) h (AF hr x) (AF hr y) (AF hr z);exact ⟨d,v,h1,h2,by simp only[execOp,ho];exact h3⟩
 · rename_i op t x y yt ho;exact wrap _ (X4 h (AF hr x) (AF hr y) x y) (by simp only[execOp,ho])
 · rename_i op t x ho;exact wrap _ (Aa3 h (AF hr x)) (by simp only[execOp,ho])
 · rename_i x ho;have hx:=AF hr x;have run:∀{ad},a.eval x= .pointer (some ad)→(execOp a.eval o).run P w= .ok (.value (.pointer (some ad))) w:=by
     intro ad e;simp[execOp,ho,e]
   split at h
   · rename_i id off he;rw[he] at hx;generalize hv:a.eval x=v at hx;cases hx with | ptr _ _ hs=>exact ⟨_,_,h,.ptr id off hs,run hv⟩
   · rename_i cs he;rw[he] at hx;generalize hv:a.eval x=v at hx;cases hx with | pe _ b off row e fr hF hh hi hp=>exact ⟨_,_,h,.pe cs b off row e fr hF hh hi hp,run hv⟩
   · rename_i id i q N he;rw[he] at hx;generalize hv:a.eval x=v at hx;cases hx with
     | ea _ _ _ _ sz n v hs hN Qu h2=>
       rw[hs] at h;obtain ⟨hv3,AL⟩:=h2 h.1;subst hv3;exact ⟨_,_,h.2,.ea id i q N sz n _ hs hN Qu h2,run hv⟩
   · exact h.elim
 · rename_i s d x ho;exact wrap _ (XQ h (AF hr x)) (by simp only[execOp,ho])
 · rename_i t parts ho;exact wrap _ (VK hr h) (by simp only[execOp,ho])
 · rename_i t x ho;exact wrap _ (PH hr.heap h (AF hr x)) (by simp only[execOp,ho])
 · rename_i t x lo hi mx ho;exact wrap _ (UM hr h (AF hr x)) (by simp only[execOp,ho])
 · rename_i t x f ho;exact wrap _ (Pb h (AF hr x)) (by simp only[execOp,ho])
 · rename_i t x f ho;exact wrap _ (Vt h (AF hr x)) (by simp only[execOp,ho])
 · rename_i t x i ho;exact wrap _ (OU h (AF hr x) (AF hr i)) (by simp only[execOp,ho])
 · rename_i t x i ho;exact wrap _ (Vd h (AF hr x) (AF hr i)) (by simp only[execOp,ho])
 · rename_i t i ho;exact wrap _ (RX h (AF hr t)) (by simp only[execOp,ho])
 · rename_i t x i ok ho;exact wrap _ (SU hr h (AF hr x) (AF hr i)) (by simp only[execOp,ho])
 · rename_i f first cap ho
   obtain ⟨h0,h⟩:=h;have hf:first=#[]:=Array.eq_empty_of_size_eq_zero h0
   subst hf;refine ⟨_,.func (.func f) #[] (cap.map a.eval),h,.fn f _ _ (by simp) (fun i c hc=>?_),by simp[execOp,ho,Instr.makeFunc]⟩;rw[List.getElem?_map] at hc;cases hq:cap.toList[i]? with
   | none=>rw[hq] at hc;cases hc
   | some q=>
     rw[hq] at hc;cases hc;have:=AF hr q;have Yr:cap[i]?=some q:=by simpa using hq
     simpa [Array.getD_eq_getD_getElem?,Yr] using this
 · exact h.elim
end
end Go.Am
namespace Go.Am
open Go
theorem A9 {α:Type} (x:α):∀(h:List (Nat×α)) (id j:Nat),get (Ae h id x) j=if j=id then some x else get h j
 | [],id,j=>by simp only[Ae,get];by_cases e:id=j<;>simp[e,eq_comm]
 | (k,y)::r,id,j=>by
   have ih:=A9 x r id j;simp only[Ae];by_cases e:k=id
   · subst e;simp only[if_true,get];by_cases e2:k=j
     · simp[e2]
     · simp[e2,Ne.symm e2]
   · simp only[e,if_false,get,ih];by_cases e2:k=j
     · subst e2;simp[e]
     · simp[e2]
section
variable {P:Program} {c:Ctx} {st:St} {a:Act} {w:World} {F:Nat→Prop} {M:Nat→Mb}
theorem Rel.change (hr:Rel c st a w F M) {id:Nat} {o':AO} {w':World} {M':Nat→Mb} {hp':Hp}
   (AN:∀j,get hp' j=if j=id then some o' else get st.hp j) (hM:∀j,j≠id→M' j=M j) (E9:Ba M M' (sg st.hp) (sg hp'))
   (hos:w'.os=w.os) (NM:w'.tape=w.tape) (Qe:w'.output=w.output) (E8:w.heap.size≤w'.heap.size)
   (hold:∀b,b<w.heap.size→(∀o,get st.hp id=some o→¬o.DO (M id) b)→w'.heap[b]?=w.heap[b]?)
   (KQ:LZ F w' M' (sg hp') (M' id) o')
   (O5:∀b,o'.DO (M' id) b→(∃o,get st.hp id=some o∧o.DO (M id) b)∨w.heap.size≤b):
   Rel c {st with hp:=hp'} a w' F M':=by
 have hF:∀b,F b→w'.heap[b]?=w.heap[b]?:=fun b hb=>hold b (hr.keep.Fl b hb) (fun o ho A6=>hr.heap.Hl ⟨id,o,ho,A6⟩ hb);have Aqe:∀j o b,j≠id→get st.hp j=some o→o.DO (M j) b→w'.heap[b]?=w.heap[b]?:=fun j o b hj ho A6=>
   hold _ (hr.heap.lt ⟨j,o,ho,A6⟩) (fun o2 SF p3=>hj (hr.heap.inj j o id o2 b ho SF A6 p3))
 have BC:∀j o b,j≠id→get st.hp j=some o→o.DO (M j) b→¬o'.DO (M' id) b:=fun j o b hj ho A6 Lv=>by
   rcases O5 b Lv with ⟨o2,h1,h2⟩ | h1
   · exact hj (hr.heap.inj j o id o2 b ho h1 A6 h2)
   · have:=hr.heap.lt ⟨j,o,ho,A6⟩;omega
 constructor
 · intro t d ht;exact (hr.env t d ht).keep hF (fun _ h=>h) E9
 · exact hr.size
 · exact hr.defers
 · constructor
   · intro j o hj;rw[AN] at hj;by_cases e:j=id
     · subst e;simp only[if_true,Option.some.injEq] at hj;subst hj;exact KQ
     · rw[if_neg e] at hj;rw[hM j e];exact (hr.heap.obj j o hj).keep hF (fun _ h=>h) E9 (fun b A6=>⟨Aqe j o b e hj A6,hr.heap.Hl ⟨j,o,hj,A6⟩⟩)
   · intro j o j' o2 b hj ET A6 CE;rw[AN] at hj ET;by_cases e:j=id
     · by_cases e':j'=id
       · rw[e,e']
       · subst e;rw[if_neg e'] at ET;simp only[if_true,Option.some.injEq] at hj;subst hj;rw[hM j' e'] at CE;exact (BC j' o2 b e' ET CE A6).elim
     · rw[if_neg e] at hj;rw[hM j e] at A6;by_cases e':j'=id
       · subst e';simp only[if_true,Option.some.injEq] at ET;subst ET;exact (BC j o b e hj A6 CE).elim
       · rw[if_neg e'] at ET;rw[hM j' e'] at CE;exact hr.heap.inj j o j' o2 b hj ET A6 CE
 · have hk:=hr.keep;refine ⟨hos.trans hk.os,NM.trans hk.tape,Qe.trans hk.output,Nat.le_trans hk.size E8,fun b hb hO=>?_,hk.F0,hk.Fn,fun b hb=>Nat.lt_of_lt_of_le (hk.Fl b hb) E8,?_,hk.Tm.trans E9,hk.YN⟩
   · rw[hold b (Nat.lt_of_lt_of_le hb hk.size) (fun o ho A6=>?_)]
     · exact hk.J5 b hb hO
     · rcases hk.own _ ⟨id,o,ho,A6⟩ with h1 | h1
       · exact hO h1
       · omega
   · rintro b ⟨j,o,hj,A6⟩;rw[AN] at hj;by_cases e:j=id
     · subst e;simp only[if_true,Option.some.injEq] at hj;subst hj;rcases O5 b A6 with ⟨o2,h1,h2⟩ | h1
       · exact hk.own _ ⟨j,o2,h1,h2⟩
       · right;have:=hk.size;omega
     · rw[if_neg e] at hj;rw[hM j e] at A6;exact hk.own _ ⟨j,o,hj,A6⟩
theorem Bv {hp hp':Hp} {id:Nat} {o':AO} (AN:∀j,get hp' j=if j=id then some o' else get hp j) (j:Nat):
   sg hp' j=if j=id then some o'.sg else sg hp j:=by
 unfold sg;rw[AN];by_cases e:j=id<;>simp[e]
theorem Em {M M':Nat→Mb} {hp hp':Hp} {id:Nat} {o':AO} (AN:∀j,get hp' j=if j=id then some o' else get hp j) (hM:∀j,j≠id→M' j=M j)
   (hn:get hp id=none):Ba M M' (sg hp) (sg hp'):=by
 have hn':sg hp id=none:=by simp[sg,hn]
 refine ⟨fun j hj=>?_,fun j sz n hj=>?_,fun j sz n k hj=>?_⟩
 · have e:j≠id:=fun e=>by rw[e,hn'] at hj;cases hj
   rw[Bv AN,if_neg e,hM j e];exact ⟨hj,rfl⟩
 · have e:j≠id:=fun e=>by rw[e,hn'] at hj;cases hj
   rw[Bv AN,if_neg e,hM j e];exact ⟨n,hj,Nat.le_refl _,fun _=>rfl⟩
 · have e:j≠id:=fun e=>by rw[e,hn'] at hj;cases hj
   rw[Bv AN,if_neg e,hM j e];exact ⟨n,k,hj,Nat.le_refl _,Nat.le_refl _,fun _=>⟨rfl,rfl⟩,fun _=>rfl⟩
theorem BZ {hp hp':Hp} {id:Nat} {o o':AO} (AN:∀j,get hp' j=if j=id then some o' else get hp j)
   (ho:get hp id=some o) (hs:o'.sg=o.sg):sg hp'=sg hp:=by
 funext j
 rw[Bv AN];by_cases e:j=id
 · subst e;simp[sg,ho,hs]
 · simp[e]
theorem Rel.freeze (hr:Rel c st a w F M) {id sz:Nat} {t:TypeId} {es:List (List Pd)} (ho:get st.hp id=some (.arr t sz es)):
   Rel c {st with hp:=froze st.hp id} a w (fun b=>F b∨((M id).cap≠0∧b=(M id).BU)) M:=by
 have hf:froze st.hp id=Ae st.hp id (.J3 sz es):=by simp[froze,ho]
 have AN:∀j,get (froze st.hp id) j=if j=id then some (.J3 sz es) else get st.hp j:=fun j=>by rw[hf,A9]
 have E9:sg (froze st.hp id)=sg st.hp:=BZ AN ho rfl;have EU:Ba M M (sg st.hp) (sg (froze st.hp id)):=by rw[E9];exact Ba.refl _ _
 have GA:∀b,F b→(F b∨((M id).cap≠0∧b=(M id).BU)):=fun b h=> .inl h;constructor
 · intro q d hq;exact (hr.env q d hq).keep (fun _ _=>rfl) GA EU
 · exact hr.size
 · exact hr.defers
 · constructor
   · intro j o hj;rw[AN] at hj;by_cases e:j=id
     · subst e;simp only[if_true,Option.some.injEq] at hj;subst hj;obtain ⟨h1,h2,_,h3,h4⟩:=hr.heap.obj j _ ho;refine ⟨h1,h2,h3,fun hc=>?_⟩;obtain ⟨_,row,h6,h7,h8⟩:=h4 hc;exact ⟨.inr ⟨hc,rfl⟩,row,t,h6.choose,h6.choose_spec.1,h7,fun i e q x he hx=>(h8 i e q x he hx).keep (fun _ _=>rfl) GA⟩
     · rw[if_neg e] at hj;refine (hr.heap.obj j o hj).keep (fun _ _=>rfl) GA EU (fun b A6=>⟨rfl,?_⟩);rintro (h | ⟨hc,he⟩)
       · exact hr.heap.Hl ⟨j,o,hj,A6⟩ h
       · exact e (hr.heap.inj j o id _ b hj ho A6 ⟨hc,he⟩)
   · intro j o j' o2 b hj ET A6 CE;rw[AN] at hj ET;by_cases e:j=id
     · rw[if_pos e] at hj;cases hj;exact A6.elim
     · by_cases e':j'=id
       · rw[if_pos e'] at ET;cases ET;exact CE.elim
       · rw[if_neg e] at hj;rw[if_neg e'] at ET;exact hr.heap.inj j o j' o2 b hj ET A6 CE
 · have hk:=hr.keep;refine ⟨hk.os,hk.tape,hk.output,hk.size,hk.J5,fun b h=> .inl (hk.F0 b h),?_,?_,?_,hk.Tm.trans EU,hk.YN⟩
   · rintro b (h | ⟨hc,rfl⟩)
     · exact hk.Fn b h
     · rcases hk.own _ ⟨id,_,ho,hc,rfl⟩ with h1 | h1
       · exact .inr (.inl h1)
       · exact .inr (.inr h1)
   · rintro b (h | ⟨hc,rfl⟩)
     · exact hk.Fl b h
     · exact hr.heap.lt ⟨id,_,ho,hc,rfl⟩
   · rintro b ⟨j,o,hj,A6⟩;rw[AN] at hj;by_cases e:j=id
     · rw[if_pos e] at hj;cases hj;exact A6.elim
     · rw[if_neg e] at hj;exact hk.own _ ⟨j,o,hj,A6⟩
theorem SA.pure {F F':Nat→Prop} {w:World} {m:Mb} {t:TypeId} {sz:Nat} {es:List (List Pd)} (h:SA F w m t sz es) (hF:∀b,F b→F' b) (hb:m.cap≠0→F' m.BU) {ad:Option Addr}
   (ha:m.cap=0∨ad=some ⟨m.BU,0,none⟩):PR F' w (.sl es) (.slice ad es.length m.cap):=by
 obtain ⟨h1,h2,_,h3,h4⟩:=h;by_cases h0:es=[]
 · subst h0;exact .Tk ad m.cap
 · have DT:0<es.length:=List.length_pos_iff.2 h0;have hc:m.cap≠0:=by omega
   obtain ⟨_,row,h6,h7,h8⟩:=h4 hc;obtain rfl:=ha.resolve_left hc;refine .sl es m.BU 0 m.cap sz row t h6.choose (hb hc) h6.choose_spec.1 h2 h3 (fun i e j c he hj=>?_) (fun i e j c he hj=>by rw[Nat.zero_add];exact (h8 i e j c he hj).keep (fun _ _=>rfl) hF);rw[h7,Nat.zero_add];exact Hg (List.getElem?_eq_some_iff.1 he).1 h2 (by have:=h3 i e he;have:=(List.getElem?_eq_some_iff.1 hj).1;omega)
theorem Rel.Amy (hr:Rel c st a w F M) {id sz k:Nat} {t e:TypeId} {rows:List (List (List Pd))} (ho:get st.hp id=some (.BP t e sz k rows none)):
   Rel c {st with hp:=Ae st.hp id (.Df (GM (.BP sz rows.length k)))} a w (fun b=>F b∨B5 (M id) b) M:=by
 have AN:∀j,get (Ae st.hp id (.Df (GM (.BP sz rows.length k)))) j=if j=id then some (.Df (GM (.BP sz rows.length k))) else get st.hp j:=A9 _ _ _
 have E9:sg (Ae st.hp id (.Df (GM (.BP sz rows.length k))))=sg st.hp:=BZ AN ho rfl;have EU:Ba M M (sg st.hp) (sg (Ae st.hp id (.Df (GM (.BP sz rows.length k))))):=by rw[E9];exact Ba.refl _ _
 have GA:∀b,F b→(F b∨B5 (M id) b):=fun b h=> .inl h;constructor
 · intro q d hq;exact (hr.env q d hq).keep (fun _ _=>rfl) GA EU
 · exact hr.size
 · exact hr.defers
 · constructor
   · intro j o hj;rw[AN] at hj;by_cases e:j=id
     · rw[if_pos e] at hj;cases hj;trivial
     · rw[if_neg e] at hj;refine (hr.heap.obj j o hj).keep (fun _ _=>rfl) GA EU (fun b A6=>⟨rfl,?_⟩);rintro (h | h)
       · exact hr.heap.Hl ⟨j,o,hj,A6⟩ h
       · exact e (hr.heap.inj j o id _ b hj ho A6 h)
   · intro j o j' o2 b hj ET A6 CE;rw[AN] at hj ET;by_cases e:j=id
     · rw[if_pos e] at hj;cases hj;exact A6.elim
     · by_cases e':j'=id
       · rw[if_pos e'] at ET;cases ET;exact CE.elim
       · rw[if_neg e] at hj;rw[if_neg e'] at ET;exact hr.heap.inj j o j' o2 b hj ET A6 CE
 · have hk:=hr.keep;refine ⟨hk.os,hk.tape,hk.output,hk.size,hk.J5,fun b h=> .inl (hk.F0 b h),?_,?_,?_,hk.Tm.trans EU,hk.YN⟩
   · rintro b (h | h)
     · exact hk.Fn b h
     · rcases hk.own _ ⟨id,_,ho,h⟩ with h1 | h1
       · exact .inr (.inl h1)
       · exact .inr (.inr h1)
   · rintro b (h | h)
     · exact hk.Fl b h
     · exact hr.heap.lt ⟨id,_,ho,h⟩
   · rintro b ⟨j,o,hj,A6⟩;rw[AN] at hj;by_cases e:j=id
     · rw[if_pos e] at hj;cases hj;exact A6.elim
     · rw[if_neg e] at hj;exact hk.own _ ⟨j,o,hj,A6⟩
theorem Ng (hr:HR F w M st.hp) {id sz k:Nat} {t e:TypeId} {rows:List (List (List Pd))} {v:Value} (ho:get st.hp id=some (.BP t e sz k rows none)) (h:PB (M id) 1 rows.length 0 rows.length v):
   PR (fun b=>F b∨B5 (M id) b) w (.sl (rows.map fun r=>[.sl r])) v:=by
 have hn:FR F w (M id) t e sz rows none:=hr.obj id _ ho;obtain ⟨ad,cap,rfl,h1,h2,h3,h4⟩:=h;by_cases h0:rows=[]
 · subst h0;exact .Tk ad cap
 · have DT:0<rows.length:=List.length_pos_iff.2 h0;have hc:(M id).cap≠0:=by have:=hn.le;omega
   obtain ⟨_,row,h6,h7,h8⟩:=hn.outer hc;have Hx:cap≠0:=by omega
   obtain rfl:=h4.resolve_left Hx;rw[show rows.length=(rows.map fun r=>([.sl r]:List Pd)).length by simp];refine .sl _ (M id).BU (0*1) cap 1 row t (0,0) (.inr (.inl ⟨hc,rfl⟩)) h6 (by simp;omega) (fun i x hx=>?_) (fun i x j y hx hy=>?_) (fun i x j y hx hy=>?_)
   · rw[List.getElem?_map] at hx;cases Fa:rows[i]? with
     | none=>rw[Fa] at hx;cases hx
     | some r=>rw[Fa] at hx;cases hx;rfl
   · rw[List.getElem?_map] at hx;cases Fa:rows[i]? with
     | none=>rw[Fa] at hx;cases hx
     | some r=>
       rw[Fa] at hx;cases hx;have hi:=(List.getElem?_eq_some_iff.1 Fa).1;have hj:=(List.getElem?_eq_some_iff.1 hy).1;have:=hn.le;simp at hj;omega
   · rw[List.getElem?_map] at hx;cases Fa:rows[i]? with
     | none=>rw[Fa] at hx;cases hx
     | some r=>
       rw[Fa] at hx;cases hx;have hi:=(List.getElem?_eq_some_iff.1 Fa).1;have hix:i<(M id).xs.length:=by rw[hn.xl];exact hi
       have hib:(M id).xs[i]?=some ((M id).xs[i]):=List.getElem?_eq_getElem hix;obtain ⟨a2,g1,g2⟩:=h8 i r _ Fa hib (by simp);rcases j with _ | j
       · simp at hy;subst hy;simp only[Nat.zero_mul,Nat.mul_one,Nat.zero_add,Nat.add_zero];rw[g1];exact (hn.rows i r _ Fa hib (by simp)).pure (fun b h=> .inl h) (fun Vn=> .inr (.inr ⟨i,_,hib,Vn,rfl⟩)) g2
       · simp at hy
theorem HT (hr:HR F w M st.hp) {id off len sz n:Nat} {es:List (List Pd)} {v:Value} (hg:(∃t,get st.hp id=some (.arr t sz es))∨get st.hp id=some (.J3 sz es))
   (hn:n=es.length) (h:PB (M id) sz n off len v) {F':Nat→Prop} (hF:∀b,F b→F' b) (hb:(M id).cap≠0→F' (M id).BU):PR F' w (.sl ((es.drop off).take len)) v:=by
 subst hn;obtain ⟨ad,cap,rfl,h1,h2,h3,h4⟩:=h;obtain ⟨h5,h6,h7,h8⟩:=hr.row hg;have hlen:((es.drop off).take len).length=len:=by simp;omega
 by_cases h0:len=0
 · subst h0;have:(es.drop off).take 0=[]:=by simp
   rw[this];exact .Tk _ _
 · have h9:=h4.resolve_left (by omega);subst h9;obtain ⟨row,t,fr,Lx,Yw,S3⟩:=h8 (by omega);have AN:∀(i:Nat) e,((es.drop off).take len)[i]?=some e→es[off+i]?=some e:=fun i e he=>by
     rw[List.getElem?_take] at he;split at he
     · rwa[List.getElem?_drop] at he
     · cases he
   have key:=PR.sl (F:=F') (w:=w) ((es.drop off).take len) (M id).BU (off*sz) cap sz row t fr (hb (by omega)) Lx (by omega) (fun i e he=>h7 _ e (AN i e he)) (fun i e j x he hx=>by
     have h13:=h7 _ e (AN i e he);have h14:=(List.getElem?_eq_some_iff.1 hx).1;have h15:=(List.getElem?_eq_some_iff.1 (AN i e he)).1;have:=Hg (j:=j) (sz:=sz) h15 h6 (by omega);rw[Nat.add_mul] at this;omega) (fun i e j x he hx=>by
     have:=S3 _ e j x (AN i e he) hx;rw[Nat.add_mul] at this;exact this.keep (fun _ _=>rfl) hF)
   rw[hlen] at key;exact key
theorem Je (hr:Rel c st a w F M) {d:D} {v:Value} (hd:DR F w M (sg st.hp) d v) {k:Pd→Hp→Prop} (h:Iw st.hp d k):
   ∃x h' F',k x h'∧Rel c {st with hp:=h'} a w F' M∧(∀b,F b→F' b)∧sg h'=sg st.hp∧PR F' w x v:=by
 unfold Iw at h;cases d with
 | p x=>cases hd with | p hx=>exact ⟨x,st.hp,F,h,hr,fun _ h=>h,rfl,hx⟩
 | cl es=>cases hd with | cl _ ad hx _=>exact ⟨_,st.hp,F,h,hr,fun _ h=>h,rfl,hx⟩
 | cz es=>cases hd with | cz _ ad hx=>exact ⟨_,st.hp,F,h,hr,fun _ h=>h,rfl,hx⟩
 | ref id off len N=>
   simp only at h;cases hd with
   | ref _ _ _ _ sz n v hs hN hv h2=>
     cases ho:get st.hp id with
     | none=>rw[ho] at h;exact h.elim
     | some o=>
       rw[ho] at h;cases o with
       | box cs ty=>exact h.elim
       | iter _ _=>exact h.elim
       | BK _ _=>exact h.elim
       | Df _=>exact h.elim
       | mp _=>exact h.elim
       | BP _ _ _ _ _ _=>exact h.elim
       | arr t Pv es=>
         obtain ⟨rfl,hk⟩:=h;have E9:=Bg ho;rw[E9] at hs;simp only[AO.sg,Option.some.injEq,Sg.arr.injEq] at hs;obtain ⟨rfl,rfl⟩:=hs;have AN:∀j,get (froze st.hp id) j=if j=id then some (.J3 Pv es) else get st.hp j:=fun j=>by simp[froze,ho,A9]
         exact ⟨_,_,_,hk,hr.freeze ho,fun b h=> .inl h,BZ AN ho rfl,HT hr.heap (.inl ⟨t,ho⟩) rfl (h2 rfl) (fun b h=> .inl h) (fun hc=> .inr ⟨hc,rfl⟩)⟩
       | J3 Pv es=>
         obtain ⟨rfl,hk⟩:=h;have E9:=Bg ho;rw[E9] at hs;simp only[AO.sg,Option.some.injEq,Sg.arr.injEq] at hs;obtain ⟨rfl,rfl⟩:=hs;have hob:=hr.heap.obj id _ ho;exact ⟨_,st.hp,F,hk,hr,fun b h=>h,rfl,HT hr.heap (.inr ho) rfl (h2 rfl) (fun b h=>h) (fun hc=>(hob.2.2.2 hc).1)⟩
 | BS id n=>
   simp only at h;split at h
   case h_2=>exact h.elim
   rename_i t e sz kk rows ho;obtain ⟨rfl,hk⟩:=h;cases hd with
   | BS _ _ M3 m k2 _ hs hN hv h2=>
     have KN:=Bg ho;rw[hs] at KN;simp only[AO.sg,Option.some.injEq,Sg.BP.injEq] at KN;obtain ⟨rfl,rfl,rfl⟩:=KN;exact ⟨_,_,_,hk,hr.Amy ho,fun b h=> .inl h,BZ (A9 _ _ _) ho rfl,Ng hr.heap ho (h2 rfl)⟩
 | _=>exact h.elim
theorem Kp:∀(ds:List D) {st:St} {F:Nat→Prop} (vs:List Value),Rel c st a w F M→G0 F w M (sg st.hp) ds vs→∀{k:List Pd→Hp→Prop},Fp st.hp ds k→
   ∃xs h' F',k xs h'∧Rel c {st with hp:=h'} a w F' M∧(∀b,F b→F' b)∧sg h'=sg st.hp∧xs.length=vs.length∧∀(i:Nat) x,xs[i]?=some x→PR F' w x (vs.getD i undef)
 | [],st,F,vs,hr,hd,k,h=>⟨[],st.hp,F,h,hr,fun _ h=>h,rfl,by have:=hd.1;simpa using this.symm,fun i x hx=>by simp at hx⟩
 | d::ds,st,F,vs,hr,hd,k,h=>by
   cases vs with
   | nil=>have:=hd.1;simp at this
   | cons v vs=>
     simp only[Fp] at h;have hd0:DR F w M (sg st.hp) d v:=by simpa [List.getD] using hd.2 0 d rfl
     obtain ⟨x,h1,F1,hk,D6,hF1,JT,hx⟩:=Je hr hd0 h;have SG:G0 F1 w M (sg h1) ds vs:=by
       refine ⟨by have:=hd.1;simpa using this,fun i e he=>?_⟩;have:=hd.2 (i+1) e (by simpa using he);rw[JT];have h3:DR F w M (sg st.hp) e (vs.getD i undef):=by simpa [List.getD] using this
       exact h3.keep (fun _ _=>rfl) hF1 (Ba.refl _ _)
     obtain ⟨xs,h2,F2,HL,Fa,hF2,KN,RE,Jo⟩:=Kp ds (st:={st with hp:=h1}) vs D6 SG hk;refine ⟨x::xs,h2,F2,HL,Fa,fun b hb=>hF2 b (hF1 b hb),KN.trans JT,by simp[RE],fun i y hy=>?_⟩;cases i with
     | zero=>simp only[List.getElem?_cons_zero,Option.some.injEq] at hy;subst hy;simpa [List.getD] using hx.keep (fun _ _=>rfl) hF2
     | succ i=>simp only[List.getElem?_cons_succ] at hy;simpa [List.getD] using Jo i y hy
end
end Go.Am
namespace Go.Am
open Go
section
variable {P:Program} {c:Ctx} {st:St} {a:Act} {w:World} {F:Nat→Prop} {M:Nat→Mb}
theorem alloc_old (w:World) (o:Obj) (b:Nat) (h:b<w.heap.size):(w.alloc o).heap[b]?=w.heap[b]?:=by
 show (w.heap.push o)[b]?=_
 rw[Array.getElem?_push,if_neg (by omega)]
theorem DR.HY {s:Nat→Option Sg} {d:D} {v:Value} (h:DR F w M s d v) (h1:d.one=true):v.oneCell'=true:=by
 cases h with
 | p h=>exact h.HY
 | agg _ _ _ _=>simp[D.one] at h1
 | BA _ _ _ _=>simp[D.one] at h1
 | cl _ _ _ _=>rfl
 | cz _ _ _=>rfl
 | ref _ _ _ _ _ _ _ _ _ hv _=>obtain ⟨_,_,_,rfl⟩:=hv;rfl
 | ptr _ _ _=>rfl
 | np=>rfl
 | mv _ _=>rfl
 | BS _ _ _ _ _ _ _ _ hv _=>obtain ⟨_,_,rfl,_⟩:=hv;rfl
 | J6 _ _ _ _ _ _ _ _ _ _ _=>rfl
 | nr _ _ _ _ _ _ _ _ _ _ hv _=>obtain ⟨_,_,rfl⟩:=hv;rfl
 | pe _ _ _ _ _ _ _ _ _ _=>rfl
 | ea _ _ _ _ _ _ _ _ _ hv _=>obtain ⟨_,rfl⟩:=hv;rfl
 | fn _ _ _ _ _=>rfl
 | Pu _ h=>exact h
 | bad _=>simp[D.one] at h1
theorem G0.keep {F':Nat→Prop} {w':World} {M':Nat→Mb} {s s':Nat→Option Sg} {cs:List D} {vs:List Value} (h:G0 F w M s cs vs)
   (hw:∀b,F b→w'.heap[b]?=w.heap[b]?) (hF:∀b,F b→F' b) (hs:Ba M M' s s'):G0 F' w' M' s' cs vs:=
 ⟨h.1,fun i c hc=>(h.2 i c hc).keep hw hF hs⟩
def Du (M:Nat→Mb) (q:Nat) (m:Mb):Nat→Mb:=fun j=>if j=q then m else M j
theorem Jv (h:Hp) (q:Nat) (o:AO) (j:Nat):get ((q,o)::h) j=if j=q then some o else get h j:=by
 rw[AI];by_cases e:j=q
 · simp[e]
 · rw[if_neg e,if_neg (Ne.symm e)]
theorem Rel.Agc (hr:Rel c st a w F M) {q:Nat} {cs:List D} {vs:Array Value} (t ty:TypeId) (hty:Ni ty t=t) (hn:get st.hp q=none) (hd:G0 F w M (sg st.hp) cs vs.toList) (h1:cs.all D.one=true) (hx:Exa ty cs vs):
   Rel c {st with hp:=(q,.box cs ty)::st.hp} a (w.alloc (.cells vs t)) F (Du M q ⟨w.heap.size,0,[]⟩)∧
   DR F (w.alloc (.cells vs t)) (Du M q ⟨w.heap.size,0,[]⟩) (sg ((q,.box cs ty)::st.hp)) (.ptr q 0) (.pointer (some ⟨w.heap.size,0,none⟩)):=by
 have AN:=Jv st.hp q (.box cs ty);have hM:∀j,j≠q→Du M q ⟨w.heap.size,0,[]⟩ j=M j:=fun j hj=>by simp[Du,hj]
 have HM:Du M q ⟨w.heap.size,0,[]⟩ q=⟨w.heap.size,0,[]⟩:=by simp[Du]
 have EU:=Em AN hM hn;have hold:∀b,b<w.heap.size→(w.alloc (.cells vs t)).heap[b]?=w.heap[b]?:=fun b hb=>alloc_old w _ b hb;refine ⟨hr.change AN hM EU rfl rfl rfl (by simp) (fun b hb _=>hold b hb) ?_ (fun b hb=> .inr (by have:b=_:=hb;rw[this,HM];exact Nat.le_refl _)),?_⟩
 · rw[HM];refine ⟨fun hF=>Nat.lt_irrefl _ (hr.keep.Fl _ hF),vs,t,by rw[hty];exact heap_alloc_new w _,by have:=hd.1;simpa using this,fun j d hj=>?_,hx⟩;have h2:=hd.2 j d hj;have h3:vs.toList.getD j undef=vs.getD j undef:=by simp[List.getD,Array.getD_eq_getD_getElem?]
   rw[h3] at h2;exact ⟨h2.keep (fun b hb=>hold b (hr.keep.Fl b hb)) (fun _ h=>h) EU,h2.HY (List.all_eq_true.1 h1 d (List.mem_of_getElem? hj))⟩
 · have:=DR.ptr (F:=F) (w:=w.alloc (.cells vs t)) (M:=Du M q ⟨w.heap.size,0,[]⟩) (s:=sg ((q,.box cs ty)::st.hp)) q 0 (by rw[Bv AN];simp[AO.sg]);rwa[HM] at this
theorem Hf {t:TypeId} {i:TypeInfo} {z:Value} (hi:P.info? t=some i) (hz:i.zero=some z) (w:World):(zeroValue t).run P w= .ok z w:=by
 simp[zeroValue,typeInfo,hi,hz]
theorem I3 {s:Nat→Option Sg} {d:D} {v:Value} (h:DR F w M s d v) {cs:List D} (hs:d.stored=some cs):cs=d.cells∧cs.all D.one=true∧G0 F w M s cs v.cells.toList:=by
 unfold D.stored at hs;split at hs
 · rename_i h1;cases hs;exact ⟨rfl,h1,h.cells (.inl h1)⟩
 · cases hs
theorem Rel.Am0 (hr:Rel c st a w F M) {q cap sz:Nat} {es:List (List Pd)} {vs:Array Value} {e:TypeId} {w':World} (hn:get st.hp q=none)
   (hw:Oh w' w.heap.size e vs) (hws:w'.heap.size=w.heap.size+1) (hold:∀b,b<w.heap.size→w'.heap[b]?=w.heap[b]?) (hos:w'.os=w.os) (NM:w'.tape=w.tape) (Qe:w'.output=w.output)
   (CD:0<sz) (hc:es.length≤cap) (hm:cap≤maxLen) (hl:∀(i:Nat) x,es[i]?=some x→x.length=sz) (hv:vs.size=cap*sz)
   (hp:∀(i:Nat) x (j:Nat) y,es[i]?=some x→x[j]?=some y→PR F w y (vs.getD (i*sz+j) undef)):
   Rel c {st with hp:=(q,.arr e sz es)::st.hp} a w' F (Du M q ⟨w.heap.size,cap,[]⟩)∧
   DR F w' (Du M q ⟨w.heap.size,cap,[]⟩) (sg ((q,.arr e sz es)::st.hp)) (.ref q 0 es.length es.length) (.slice (some ⟨w.heap.size,0,none⟩) es.length cap):=by
 have AN:=Jv st.hp q (.arr e sz es);have hM:∀j,j≠q→Du M q ⟨w.heap.size,cap,[]⟩ j=M j:=fun j hj=>by simp[Du,hj]
 have HM:Du M q ⟨w.heap.size,cap,[]⟩ q=⟨w.heap.size,cap,[]⟩:=by simp[Du]
 have EU:=Em AN hM hn;have hs:sg ((q,.arr e sz es)::st.hp) q=some (.arr sz es.length):=by rw[Bv AN];simp[AO.sg]
 refine ⟨hr.change AN hM EU hos NM Qe (by rw[hws];exact Nat.le_succ _) (fun b hb _=>hold b hb) ?_ (fun b hb=> .inr (by have:b=_:=hb.2;rw[this,HM];exact Nat.le_refl _)),?_⟩
 · rw[HM];refine ⟨CD,hc,hm,hl,fun _=>⟨fun hF=>Nat.lt_irrefl _ (hr.keep.Fl _ hF),vs,hw,hv,fun i x j y hx hy=>?_⟩⟩;exact (hp i x j y hx hy).keep (fun b hb=>hold b (hr.keep.Fl b hb)) (fun _ h=>h)
 · refine .ref q 0 es.length es.length sz es.length _ hs (Nat.le_refl _) ⟨_,_,_,rfl⟩ (fun _=>⟨_,cap,rfl,by omega,hc,by rw[HM];exact Nat.zero_add _,.inr (by rw[HM];simp)⟩)
theorem Rel.UW (hr:Rel c st a w F M) {q cap sz:Nat} {es:List (List Pd)} {vs:Array Value} {e:TypeId} {w':World} (hn:get st.hp q=none)
   (hw:w'.heap=(w.alloc (.cells vs e)).heap) (hos:w'.os=w.os) (NM:w'.tape=w.tape) (Qe:w'.output=w.output)
   (CD:0<sz) (hc:es.length≤cap) (hm:cap≤maxLen) (hl:∀(i:Nat) x,es[i]?=some x→x.length=sz) (hv:vs.size=cap*sz)
   (hp:∀(i:Nat) x (j:Nat) y,es[i]?=some x→x[j]?=some y→PR F w y (vs.getD (i*sz+j) undef)):
   Rel c {st with hp:=(q,.arr e sz es)::st.hp} a w' F (Du M q ⟨w.heap.size,cap,[]⟩)∧
   DR F w' (Du M q ⟨w.heap.size,cap,[]⟩) (sg ((q,.arr e sz es)::st.hp)) (.ref q 0 es.length es.length) (.slice (some ⟨w.heap.size,0,none⟩) es.length cap):=
 hr.Am0 hn (.of0 (by rw[hw];exact heap_alloc_new w _)) (by rw[hw];simp) (fun b hb=>by rw[hw];exact alloc_old w _ b hb) hos NM Qe CD hc hm hl hv hp
theorem GZ {α:Type} (sz:Nat):∀(n:Nat) (l:List α),(chunk sz n l).length=n
 | 0,_=>rfl
 | n+1,l=>by simp[chunk,GZ sz n]
theorem LF {α:Type} (sz:Nat):∀(n:Nat) (l:List α) (i:Nat),(chunk sz n l)[i]?=if i<n then some ((l.drop (i*sz)).take sz) else none
 | 0,_,i=>by simp[chunk]
 | n+1,l,0=>by simp[chunk]
 | n+1,l,i+1=>by
   simp only[chunk,List.getElem?_cons_succ,LF sz n,List.drop_drop];by_cases h:i<n
   · rw[if_pos h,if_pos (by omega)]
     congr 3
     rw[Nat.add_mul];omega
   · rw[if_neg h,if_neg (by omega)]
theorem Agv (ty t:TypeId) (cs:List D):Ni (ID ty cs) (Ni ty t)=Ni ty t:=by
 cases ty with
 | zero=>simp[ID,Ni]
 | succ n=>
   simp only[ID,Ni];split<;>simp_all
theorem Abc (ty:TypeId) (cs:List D) (row:Array Value):Exa (ID ty cs) cs row:=by
 intro h h1;cases ty with
 | zero=>exact (h rfl).elim
 | succ n=>simp[ID,h1] at h
theorem Rel.Wn (hr:Rel c st a w F M) {id off:Nat} {bs cs:List D} {ty:TypeId} {vs:List Value} (ho:get st.hp id=some (.box bs ty)) (hd:G0 F w M (sg st.hp) cs vs) (h1:cs.all D.one=true)
   (hl:off+cs.length≤bs.length):
   ∃w',(storeCells ⟨(M id).BU,off,none⟩ vs).run P w= .ok () w'∧Rel c {st with hp:=Ae st.hp id (.box (bs.take off++cs++bs.drop (off+cs.length)) (ID ty (bs.take off++cs++bs.drop (off+cs.length))))} a w' F M:=by
 obtain ⟨JU,row,t,Bj,E8,Bd⟩:=hr.heap.obj id _ ho;have SX:vs.length=cs.length:=hd.1;have LV:∀v∈vs,v.oneCell'=true:=fun v hv=>by
   obtain ⟨i,hi⟩:=List.mem_iff_getElem?.1 hv;have AL:=(List.getElem?_eq_some_iff.1 hi).1;have hc:cs[i]?=some (cs[i]'(by omega)):=List.getElem?_eq_getElem (by omega);have:=(hd.2 i _ hc).HY (List.all_eq_true.1 h1 _ (List.mem_of_getElem? hc));rwa[List.getD_eq_getElem?_getD,hi] at this
 have Jp:=run_storeCells_at P (M id).BU off (Ni ty t) vs 0 row w Bj (by omega) LV;simp only[Nat.add_zero] at Jp;refine ⟨_,Jp,?_⟩;have AN:∀j,get (Ae st.hp id (.box (bs.take off++cs++bs.drop (off+cs.length)) (ID ty (bs.take off++cs++bs.drop (off+cs.length))))) j=if j=id then some (.box (bs.take off++cs++bs.drop (off+cs.length)) (ID ty (bs.take off++cs++bs.drop (off+cs.length)))) else get st.hp j:=A9 _ _ _
 have E9:=BZ AN ho rfl;refine hr.change (M':=M) AN (fun _ _=>rfl) (by rw[E9];exact Ba.refl _ _) rfl rfl rfl (by simp) (fun b hb BC=>setRow_other w _ b _ (BC _ ho)) ?_ (fun b hb=> .inl ⟨_,ho,hb⟩);have Fu:∀{d v},DR F w M (sg st.hp) d v→DR F (w.setRow (M id).BU (row.toList.take off++vs++row.toList.drop (off+vs.length)).toArray) M (sg (Ae st.hp id (.box (bs.take off++cs++bs.drop (off+cs.length)) (ID ty (bs.take off++cs++bs.drop (off+cs.length)))))) d v:=by
   intro d v h;rw[E9];exact h.keep (fun b hb=>setRow_other w _ b _ (fun e=>JU (e ▸ hb))) (fun _ h=>h) (Ba.refl _ _)
 refine ⟨JU,_,Ni ty t,by rw[Agv];exact setRow_heap w _ _ _ (Ni ty t) (0,0) Bj,?_,fun j d hj=>?_,Abc _ _ _⟩
 · simp[SX,E8]
 · have hrd:G0 F w M (sg st.hp) bs row.toList:=⟨by simpa using E8,fun i e he=>by have:=(Bd.1 i e he).1;simpa [List.getD,Array.getD_eq_getD_getElem?] using this⟩;have B4:=((hrd.take off).append hd).append (hrd.drop (off+cs.length));have hdj:=B4.2 j d hj;have e1:((row.toList.take off++vs++row.toList.drop (off+vs.length)).toArray).getD j undef=(row.toList.take off++vs++row.toList.drop (off+cs.length)).getD j undef:=by
     rw[SX];simp[List.getD,Array.getD_eq_getD_getElem?]
   rw[e1];refine ⟨Fu hdj,?_⟩;have Aol:∀v∈row.toList,v.oneCell'=true:=fun v hv=>by
     obtain ⟨i,hi⟩:=List.mem_iff_getElem?.1 hv;have AL:=(List.getElem?_eq_some_iff.1 hi).1;simp only[Array.length_toList] at AL;have:=(Bd.1 i _ (List.getElem?_eq_getElem (by omega))).2;have e2:row[i]?=some v:=by simpa using hi
     rwa[Array.getD_eq_getD_getElem?,e2] at this
   have AL:j<(row.toList.take off++vs++row.toList.drop (off+cs.length)).length:=by rw[B4.1];exact (List.getElem?_eq_some_iff.1 hj).1
   rw[List.getD_eq_getElem?_getD,List.getElem?_eq_getElem AL];have Di:(row.toList.take off++vs++row.toList.drop (off+cs.length))[j]∈row.toList.take off++vs++row.toList.drop (off+cs.length):=List.getElem_mem AL;rw[List.mem_append,List.mem_append] at Di;simp only[Option.getD_some];rcases Di with (Di | Di) | Di
   · exact Aol _ (List.mem_of_mem_take Di)
   · exact LV _ Di
   · exact Aol _ (List.mem_of_mem_drop Di)
theorem Rel.Afl (hr:Rel c st a w F M) {id i q sz:Nat} {e:TypeId} {es:List (List Pd)} {xs:List Pd} {vs:List Value} (ho:get st.hp id=some (.arr e sz es)) (hi:i<es.length)
   (hl:xs.length=vs.length) (hx:∀(j:Nat) x,xs[j]?=some x→PR F w x (vs.getD j undef)) (hq:q+xs.length≤sz):
   ∃w',(storeCells ⟨(M id).BU,i*sz+q,none⟩ vs).run P w= .ok () w'∧
     Rel c {st with hp:=Ae st.hp id (.arr e sz (es.set i ((es.getD i []).take q++xs++(es.getD i []).drop (q+xs.length))))} a w' F M:=by
 obtain ⟨h1,h2,EV,h3,h4⟩:=hr.heap.obj id _ ho;have Hx:(M id).cap≠0:=by omega
 obtain ⟨JU,row,Bj,E8,Bd⟩:=h4 Hx;have hej:es[i]?=some (es.getD i []):=by simp[List.getD,hi]
 have hlen:=h3 i _ hej;have LV:∀v∈vs,v.oneCell'=true:=fun v hv=>by
   obtain ⟨j,hj⟩:=List.mem_iff_getElem?.1 hv;have AL:=(List.getElem?_eq_some_iff.1 hj).1;have:=(hx j _ (List.getElem?_eq_getElem (by omega))).HY;rwa[List.getD_eq_getElem?_getD,hj] at this
 have Aql:i*sz+sz≤row.size:=by
   have h5:(i+1)*sz≤(M id).cap*sz:=Nat.mul_le_mul_right _ (by omega);rw[Nat.add_mul] at h5;omega
 have Jp:=Dg P (M id).BU (i*sz+q) e vs 0 row w Bj (by omega) LV;simp only[Nat.add_zero] at Jp;refine ⟨_,Jp,?_⟩;have AN:∀j,get (Ae st.hp id (.arr e sz (es.set i ((es.getD i []).take q++xs++(es.getD i []).drop (q+xs.length))))) j=if j=id then some (.arr e sz (es.set i ((es.getD i []).take q++xs++(es.getD i []).drop (q+xs.length)))) else get st.hp j:=A9 _ _ _
 have E9:=BZ AN ho (by simp[AO.sg]);refine hr.change (M':=M) AN (fun _ _=>rfl) (by rw[E9];exact Ba.refl _ _) rfl rfl rfl (by simp) (fun b hb BC=>setRow_other w _ b _ (fun e=>BC _ ho ⟨Hx,e⟩)) ?_ (fun b hb=> .inl ⟨_,ho,hb⟩);have J7:((es.getD i []).take q++xs++(es.getD i []).drop (q+xs.length)).length=sz:=by
   rw[List.length_append,List.length_append,List.length_take,List.length_drop];omega
 refine ⟨h1,by simpa using h2,EV,fun k x hk=>?_,fun _=>⟨JU,_,Bj.set (by simp;omega),by simp;omega,fun k x j y hk hy=>?_⟩⟩
 · rw[List.getElem?_set] at hk;by_cases e1:i=k
   · rw[if_pos e1,if_pos (by omega)] at hk;simp only[Option.some.injEq] at hk;rw[←hk];exact J7
   · rw[if_neg e1] at hk;exact h3 k x hk
 · have Fu:∀{x v},PR F w x v→PR F (w.setRow (M id).BU (row.toList.take (i*sz+q)++vs++row.toList.drop (i*sz+q+vs.length)).toArray) x v:=
     fun h=>h.keep (fun b hb=>setRow_other w _ b _ (fun e=>JU (e ▸ hb))) (fun _ h=>h)
   have FH:∀p,((row.toList.take (i*sz+q)++vs++row.toList.drop (i*sz+q+vs.length)).toArray).getD p undef=
       if p<i*sz+q then row.getD p undef else if p<i*sz+q+vs.length then vs.getD (p - (i*sz+q)) undef else row.getD p undef:=by
     intro p;have hA:(row.toList.take (i*sz+q)).length=i*sz+q:=by simp;omega
     rw[Array.getD_eq_getD_getElem?,Array.getD_eq_getD_getElem?,List.getD_eq_getElem?_getD];simp only[List.getElem?_toArray];by_cases e1:p<i*sz+q
     · rw[if_pos e1,List.append_assoc,List.getElem?_append_left (by omega),List.getElem?_take,if_pos e1];simp
     · rw[if_neg e1];by_cases e2:p<i*sz+q+vs.length
       · rw[if_pos e2,List.append_assoc,List.getElem?_append_right (by omega),hA,List.getElem?_append_left (by omega)]
       · rw[if_neg e2,List.getElem?_append_right (by simp;omega),List.getElem?_drop];simp only[List.length_append,hA];rw[show i*sz+q+vs.length+(p - (i*sz+q+vs.length))=p from by omega];simp
   rw[FH];rw[List.getElem?_set] at hk;by_cases e1:i=k
   · subst e1;rw[if_pos rfl,if_pos hi] at hk;simp only[Option.some.injEq] at hk;subst hk;rw[List.append_assoc,List.getElem?_append] at hy;have hA:((es.getD i []).take q).length=q:=by rw[List.length_take];omega
     rw[hA] at hy;split at hy
     · rename_i AL;rw[if_pos (by omega)];rw[List.getElem?_take,if_pos AL] at hy;exact Fu (Bd i _ j y hej hy)
     · rename_i hge;rw[if_neg (by omega)];rw[List.getElem?_append] at hy;split at hy
       · rename_i AL;rw[if_pos (by omega)];have:=hx _ y hy;rw[show i*sz+j - (i*sz+q)=j - q from by omega];exact Fu this
       · rename_i hge2;rw[if_neg (by omega)];rw[List.getElem?_drop] at hy;have:=Bd i _ _ y hej hy;rw[show i*sz+(q+xs.length+(j - q - xs.length))=i*sz+j from by omega] at this;exact Fu this
   · rw[if_neg e1] at hk;have W0:=h3 k x hk;have hjl:=(List.getElem?_eq_some_iff.1 hy).1;have:=Fu (Bd k x j y hk hy);rcases Nat.lt_or_ge k i with hki | hki
     · have h5:(k+1)*sz≤i*sz:=Nat.mul_le_mul_right _ (by omega);rw[Nat.add_mul] at h5;rw[if_pos (by omega)];exact this
     · have h5:(i+1)*sz≤k*sz:=Nat.mul_le_mul_right _ (by omega);rw[Nat.add_mul] at h5;rw[if_neg (by omega),if_neg (by omega)];exact this
end
end Go.Am
namespace Go.Am
open Go
section
variable {P:Program} {c:Ctx} {st:St} {a:Act} {w:World} {F:Nat→Prop} {M:Nat→Mb}
theorem Rel.Agh (hr:Rel c st a w F M) {hp':Hp} {M':Nat→Mb} (E9:Ba M M' (sg st.hp) (sg hp'))
   (Ahf:∀j o,get hp' j=some o→(get st.hp j=some o∧M' j=M j)∨LZ F w M' (sg hp') (M' j) o)
   (A6:∀j o b,get hp' j=some o→o.DO (M' j) b→CL M st.hp b)
   (O1:∀j o j' o' b,get hp' j=some o→get hp' j'=some o'→o.DO (M' j) b→o'.DO (M' j') b→j=j'):Rel c {st with hp:=hp'} a w F M':=by
 constructor
 · intro t d ht;exact (hr.env t d ht).keep (fun _ _=>rfl) (fun _ h=>h) E9
 · exact hr.size
 · exact hr.defers
 · refine ⟨fun j o hj=>?_,fun j o j' o' b h1 h2 h3 h4=>O1 j o j' o' b h1 h2 h3 h4⟩;rcases Ahf j o hj with ⟨h1,h2⟩ | h1
   · rw[h2];exact (hr.heap.obj j o h1).keep (fun _ _=>rfl) (fun _ h=>h) E9 (fun b hb=>⟨rfl,hr.heap.Hl ⟨j,o,h1,hb⟩⟩)
   · exact h1
 · have hk:=hr.keep;refine ⟨hk.os,hk.tape,hk.output,hk.size,hk.J5,hk.F0,hk.Fn,hk.Fl,?_,hk.Tm.trans E9,hk.YN⟩;rintro b ⟨j,o,h1,h2⟩;exact hk.own b (A6 j o b h1 h2)
theorem CB {l:List (Nat×Nat)} {i j:Nat} {x y:Nat×Nat} (h:(l.set i x)[j]?=some y):(i=j∧y=x)∨(i≠j∧l[j]?=some y):=by
 rw[List.getElem?_set] at h;split at h
 · rename_i e;split at h
   · simp only[Option.some.injEq] at h;exact .inl ⟨e,h.symm⟩
   · cases h
 · rename_i e;exact .inr ⟨e,h⟩
theorem Rel.Aw4 (hr:Rel c st a w F M) {id i q:Nat} {t e:TypeId} {sz k:Nat} {rows:List (List (List Pd))} {r:List (List Pd)} (hg:get st.hp id=some (.BP t e sz k rows none)) (hi:rows[i]?=some r)
   (hq:get st.hp q=none):∃bc,(M id).xs[i]?=some bc∧
     Ba M (fun j=>if j=q then ⟨bc.1,bc.2,[]⟩ else if j=id then {(M id) with xs:=(M id).xs.set i (0,0)} else M j) (sg st.hp) (sg ((q,AO.arr e sz r)::Ae st.hp id (.BP t e sz (k+1) rows (some i))))∧
     Rel c {st with hp:=(q,.arr e sz r)::Ae st.hp id (.BP t e sz (k+1) rows (some i))} a w F (fun j=>if j=q then ⟨bc.1,bc.2,[]⟩ else if j=id then {(M id) with xs:=(M id).xs.set i (0,0)} else M j):=by
 have hn:FR F w (M id) t e sz rows none:=hr.heap.obj id _ hg;have AL:i<rows.length:=(List.getElem?_eq_some_iff.1 hi).1;have Ath:i<(M id).xs.length:=by rw[hn.xl];exact AL
 obtain ⟨bc,Yv⟩:∃bc,(M id).xs[i]?=some bc:=⟨_,List.getElem?_eq_getElem Ath⟩;have W5:q≠id:=fun e=>by rw[e,hg] at hq;cases hq
 refine ⟨bc,Yv,?_⟩;generalize hM':(fun j=>if j=q then (⟨bc.1,bc.2,[]⟩:Mb) else if j=id then {(M id) with xs:=(M id).xs.set i (0,0)} else M j)=M';have HM:M' q=⟨bc.1,bc.2,[]⟩:=by rw[←hM'];simp
 have Ih:M' id={(M id) with xs:=(M id).xs.set i (0,0)}:=by rw[←hM'];simp[Ne.symm W5]
 have Md:∀j,j≠q→j≠id→M' j=M j:=fun j h1 h2=>by rw[←hM'];simp[h1,h2]
 have AN:∀j,get ((q,AO.arr e sz r)::Ae st.hp id (.BP t e sz (k+1) rows (some i))) j=if j=q then some (.arr e sz r) else if j=id then some (.BP t e sz (k+1) rows (some i)) else get st.hp j:=by
   intro j;rw[AI,A9];by_cases h:q=j
   · subst h;simp
   · rw[if_neg h,if_neg (Ne.symm h)]
 have OW:sg st.hp id=some (.BP sz rows.length k):=by simp[sg,hg,AO.sg]
 have EU:Ba M M' (sg st.hp) (sg ((q,AO.arr e sz r)::Ae st.hp id (.BP t e sz (k+1) rows (some i)))):=by
   have BC:∀j s,sg st.hp j=some s→j≠q:=fun j s hs e=>by rw[e] at hs;simp[sg,hq] at hs
   refine ⟨fun j hj=>?_,fun j s2 n2 hj=>?_,fun j s2 n2 k2 hj=>?_⟩
   · have h1:=BC j _ hj;have h2:j≠id:=fun e=>by rw[e,OW] at hj;cases hj
     refine ⟨?_,by rw[Md j h1 h2]⟩;unfold sg at hj ⊢;rw[AN,if_neg h1,if_neg h2];exact hj
   · have h1:=BC j _ hj;have h2:j≠id:=fun e=>by rw[e,OW] at hj;cases hj
     refine ⟨n2,?_,Nat.le_refl _,fun _=>Md j h1 h2⟩;unfold sg at hj ⊢;rw[AN,if_neg h1,if_neg h2];exact hj
   · have h1:=BC j _ hj;by_cases h2:j=id
     · subst h2;rw[OW] at hj;simp only[Option.some.injEq,Sg.BP.injEq] at hj;obtain ⟨rfl,rfl,rfl⟩:=hj;refine ⟨_,k+1,?_,Nat.le_refl _,Nat.le_succ _,fun _=>by rw[Ih];exact ⟨rfl,rfl⟩,fun h=>by omega⟩;unfold sg;rw[AN,if_neg h1,if_pos rfl];rfl
     · refine ⟨n2,k2,?_,Nat.le_refl _,Nat.le_refl _,fun _=>by rw[Md j h1 h2];exact ⟨rfl,rfl⟩,fun _=>by rw[Md j h1 h2]⟩;unfold sg at hj ⊢;rw[AN,if_neg h1,if_neg h2];exact hj
 have Aqs:SA F w ⟨bc.1,bc.2,[]⟩ e sz r:=hn.rows i r bc hi Yv (by simp);have hN':FR F w (M' id) t e sz rows (some i):=by
   rw[Ih];refine ⟨hn.pos,by simp[hn.xl],hn.le,hn.max,fun hc=>?_,fun j r' b' h1 h2 h3=>?_,fun j b' h1 h2=>?_,fun j1 j2 b1 b2 h1 h2 h3 h4 h5=>?_,fun j b' h1 h2 h3=>?_⟩
   · obtain ⟨g1,row,g2,g3,g4⟩:=hn.outer hc;refine ⟨g1,row,g2,g3,fun j r' b' h1 h2 h3=>?_⟩;rcases CB h2 with ⟨h4,_⟩ | ⟨_,h4⟩
     · exact (h3 (by rw[h4])).elim
     · exact g4 j r' b' h1 h4 (by simp)
   · rcases CB h2 with ⟨h4,_⟩ | ⟨_,h4⟩
     · exact (h3 (by rw[h4])).elim
     · exact hn.rows j r' b' h1 h4 (by simp)
   · rcases CB h2 with ⟨_,h4⟩ | ⟨h4,_⟩
     · rw[h4]
     · exact (h4 (Option.some.inj h1)).elim
   · rcases CB h1 with ⟨_,e1⟩ | ⟨_,e1⟩
     · rw[e1] at h4;exact (h4 rfl).elim
     · rcases CB h2 with ⟨_,e2⟩ | ⟨_,e2⟩
       · rw[e2] at h5;exact (h5 rfl).elim
       · exact hn.dis j1 j2 b1 b2 e1 e2 h3 h4 h5
   · rcases CB h1 with ⟨_,e1⟩ | ⟨_,e1⟩
     · rw[e1] at h2;exact (h2 rfl).elim
     · exact hn.out j b' e1 h2 h3
 have Ku:∀b,B5 (M' id) b→B5 (M id) b∧¬(bc.2≠0∧b=bc.1):=by
   intro b hb;rw[Ih] at hb;rcases hb with ⟨h1,h2⟩ | ⟨j,b',h1,h2,h3⟩
   · exact ⟨.inl ⟨h1,h2⟩,fun h3=>hn.out i bc Yv h3.1 h1 (h3.2.symm.trans h2)⟩
   · rcases CB h1 with ⟨_,e1⟩ | ⟨e0,e1⟩
     · rw[e1] at h2;exact (h2 rfl).elim
     · exact ⟨.inr ⟨j,b',e1,h2,h3⟩,fun h4=>hn.dis i j bc b' Yv e1 e0 h4.1 h2 (h4.2.symm.trans h3)⟩
 have Als:∀b,(AO.arr e sz r).DO (M' q) b→bc.2≠0∧b=bc.1:=fun b hb=>by rw[HM] at hb;exact hb
 refine ⟨EU,hr.Agh EU (fun j o hj=>?_) (fun j o b hj hb=>?_) (fun j o j' o' b hj ET hb O6=>?_)⟩
 · rw[AN] at hj;split at hj
   · rename_i h1;subst h1;cases hj;right;rw[HM];exact Aqs
   · split at hj
     · rename_i h2;subst h2;cases hj;exact .inr hN'
     · rename_i h1 h2;exact .inl ⟨hj,Md j h1 h2⟩
 · rw[AN] at hj;split at hj
   · rename_i h1;subst h1;cases hj;exact ⟨id,_,hg,.inr ⟨i,bc,Yv,Als b hb⟩⟩
   · split at hj
     · rename_i h2;subst h2;cases hj;exact ⟨j,_,hg,(Ku b hb).1⟩
     · rename_i h1 h2;rw[Md j h1 h2] at hb;exact ⟨j,o,hj,hb⟩
 · rw[AN] at hj ET;have J5:∀j o,j≠q→j≠id→get st.hp j=some o→o.DO (M' j) b→B5 (M id) b→False:=fun j o h1 h2 h3 h4 h5=>by
     rw[Md j h1 h2] at h4;exact h2 (hr.heap.inj j o id _ b h3 hg h4 h5)
   split at hj
   · rename_i h1;subst h1;cases hj;have hbq:=Als b hb;split at ET
     · rename_i CO;exact CO.symm
     · split at ET
       · rename_i EV;subst EV;cases ET;exact ((Ku b O6).2 hbq).elim
       · rename_i CO EV;exact (J5 j' o' CO EV ET O6 (.inr ⟨i,bc,Yv,hbq⟩)).elim
   · rename_i h1;split at hj
     · rename_i h2;subst h2;cases hj;split at ET
       · rename_i CO;subst CO;cases ET;exact ((Ku b hb).2 (Als b O6)).elim
       · split at ET
         · rename_i EV;exact EV.symm
         · rename_i CO EV;exact (J5 j' o' CO EV ET O6 (Ku b hb).1).elim
     · rename_i h2;split at ET
       · rename_i CO;subst CO;cases ET;exact (J5 j o h1 h2 hj hb (.inr ⟨i,bc,Yv,Als b O6⟩)).elim
       · split at ET
         · rename_i EV;subst EV;cases ET;exact (J5 j o h1 h2 hj hb (Ku b O6).1).elim
         · rename_i CO EV;rw[Md j h1 h2] at hb;rw[Md j' CO EV] at O6;exact hr.heap.inj j o j' o' b hj ET hb O6
theorem S4 {hp:Hp} {id:Nat} {o:AO} (h:get hp id=some o) (j:Nat):get (Ae hp id o) j=get hp j:=by
 rw[A9];split
 · rename_i e;rw[e,h]
 · rfl
theorem Rel.drop (hr:Rel c st a w F M) {id i:Nat} {t e:TypeId} {sz k:Nat} {rows:List (List (List Pd))} (hg:get st.hp id=some (.BP t e sz k rows none)) (hi:i<rows.length):
   Rel c {st with hp:=Ae st.hp id (.BP t e sz (k+1) rows (some i))} a w F (fun j=>if j=id then {(M id) with xs:=(M id).xs.set i (0,0)} else M j):=by
 have hn:FR F w (M id) t e sz rows none:=hr.heap.obj id _ hg;generalize hM':(fun j=>if j=id then {(M id) with xs:=(M id).xs.set i (0,0)} else M j)=M';have Ih:M' id={(M id) with xs:=(M id).xs.set i (0,0)}:=by rw[←hM'];simp
 have Md:∀j,j≠id→M' j=M j:=fun j h=>by rw[←hM'];simp[h]
 have AN:∀j,get (Ae st.hp id (.BP t e sz (k+1) rows (some i))) j=if j=id then some (.BP t e sz (k+1) rows (some i)) else get st.hp j:=A9 _ _ _
 have OW:sg st.hp id=some (.BP sz rows.length k):=by simp[sg,hg,AO.sg]
 have EU:Ba M M' (sg st.hp) (sg (Ae st.hp id (.BP t e sz (k+1) rows (some i)))):=by
   refine ⟨fun j hj=>?_,fun j s2 n2 hj=>?_,fun j s2 n2 k2 hj=>?_⟩
   · have h2:j≠id:=fun e=>by rw[e,OW] at hj;cases hj
     refine ⟨?_,by rw[Md j h2]⟩;unfold sg at hj ⊢;rw[AN,if_neg h2];exact hj
   · have h2:j≠id:=fun e=>by rw[e,OW] at hj;cases hj
     refine ⟨n2,?_,Nat.le_refl _,fun _=>Md j h2⟩;unfold sg at hj ⊢;rw[AN,if_neg h2];exact hj
   · by_cases h2:j=id
     · subst h2;rw[OW] at hj;simp only[Option.some.injEq,Sg.BP.injEq] at hj;obtain ⟨rfl,rfl,rfl⟩:=hj;refine ⟨_,k+1,?_,Nat.le_refl _,Nat.le_succ _,fun _=>by rw[Ih];exact ⟨rfl,rfl⟩,fun h=>by omega⟩;unfold sg;rw[AN,if_pos rfl];rfl
     · refine ⟨n2,k2,?_,Nat.le_refl _,Nat.le_refl _,fun _=>by rw[Md j h2];exact ⟨rfl,rfl⟩,fun _=>by rw[Md j h2]⟩;unfold sg at hj ⊢;rw[AN,if_neg h2];exact hj
 have hN':FR F w (M' id) t e sz rows (some i):=by
   rw[Ih];refine ⟨hn.pos,by simp[hn.xl],hn.le,hn.max,fun hc=>?_,fun j r' b' h1 h2 h3=>?_,fun j b' h1 h2=>?_,fun j1 j2 b1 b2 h1 h2 h3 h4 h5=>?_,fun j b' h1 h2 h3=>?_⟩
   · obtain ⟨g1,row,g2,g3,g4⟩:=hn.outer hc;refine ⟨g1,row,g2,g3,fun j r' b' h1 h2 h3=>?_⟩;rcases CB h2 with ⟨h4,_⟩ | ⟨_,h4⟩
     · exact (h3 (by rw[h4])).elim
     · exact g4 j r' b' h1 h4 (by simp)
   · rcases CB h2 with ⟨h4,_⟩ | ⟨_,h4⟩
     · exact (h3 (by rw[h4])).elim
     · exact hn.rows j r' b' h1 h4 (by simp)
   · rcases CB h2 with ⟨_,h4⟩ | ⟨h4,_⟩
     · rw[h4]
     · exact (h4 (Option.some.inj h1)).elim
   · rcases CB h1 with ⟨_,e1⟩ | ⟨_,e1⟩
     · rw[e1] at h4;exact (h4 rfl).elim
     · rcases CB h2 with ⟨_,e2⟩ | ⟨_,e2⟩
       · rw[e2] at h5;exact (h5 rfl).elim
       · exact hn.dis j1 j2 b1 b2 e1 e2 h3 h4 h5
   · rcases CB h1 with ⟨_,e1⟩ | ⟨_,e1⟩
     · rw[e1] at h2;exact (h2 rfl).elim
     · exact hn.out j b' e1 h2 h3
 have Ku:∀b,B5 (M' id) b→B5 (M id) b:=by
   intro b hb;rw[Ih] at hb;rcases hb with ⟨h1,h2⟩ | ⟨j,b',h1,h2,h3⟩
   · exact .inl ⟨h1,h2⟩
   · rcases CB h1 with ⟨_,e1⟩ | ⟨e0,e1⟩
     · rw[e1] at h2;exact (h2 rfl).elim
     · exact .inr ⟨j,b',e1,h2,h3⟩
 refine hr.Agh EU (fun j o hj=>?_) (fun j o b hj hb=>?_) (fun j o j' o' b hj ET hb O6=>?_)
 · rw[AN] at hj;split at hj
   · rename_i h2;subst h2;cases hj;exact .inr hN'
   · rename_i h2;exact .inl ⟨hj,Md j h2⟩
 · rw[AN] at hj;split at hj
   · rename_i h2;subst h2;cases hj;exact ⟨j,_,hg,Ku b hb⟩
   · rename_i h2;rw[Md j h2] at hb;exact ⟨j,o,hj,hb⟩
 · rw[AN] at hj ET;have J5:∀j o,j≠id→get st.hp j=some o→o.DO (M' j) b→B5 (M' id) b→False:=fun j o h2 h3 h4 h5=>by
     rw[Md j h2] at h4;exact h2 (hr.heap.inj j o id _ b h3 hg h4 (Ku b h5))
   split at hj
   · rename_i h2;subst h2;cases hj;split at ET
     · rename_i EV;exact EV.symm
     · rename_i EV;exact (J5 j' o' EV ET O6 hb).elim
   · rename_i h2;split at ET
     · rename_i EV;subst EV;cases ET;exact (J5 j o h2 hj hb O6).elim
     · rename_i EV;rw[Md j h2] at hb;rw[Md j' EV] at O6;exact hr.heap.inj j o j' o' b hj ET hb O6
theorem Rel.Afk (hr:Rel c st a w F M) {id i:Nat} {t e:TypeId} {sz k:Nat} {rows:List (List (List Pd))} (hg:get st.hp id=some (.BP t e sz k rows (some i))) (hi:i<rows.length) (v:Value) (h1:v.oneCell'=true):
   ∃w',(storeCells ⟨(M id).BU,i,none⟩ [v]).run P w= .ok () w'∧Rel c st a w' F M∧∃row,w'.heap[(M id).BU]?=some (.cells row t (0,0))∧row.size=(M id).cap∧row.getD i undef=v:=by
 have hn:FR F w (M id) t e sz rows (some i):=hr.heap.obj id _ hg;have Hx:(M id).cap≠0:=by have:=hn.le;omega
 obtain ⟨JU,row,Bj,E8,Bd⟩:=hn.outer Hx;have AL:i<row.size:=by have:=hn.le;omega
 have Jp:=run_storeCells_at P (M id).BU i t [v] 0 row w Bj (by simp;omega) (by simpa using h1);simp only[Nat.add_zero,List.length_cons,List.length_nil,Nat.zero_add] at Jp;have FH:∀p,((row.toList.take i++[v]++row.toList.drop (i+1)).toArray).getD p undef=if p=i then v else row.getD p undef:=by
   intro p;have e1:row.toList.take i++[v]++row.toList.drop (i+1)=row.toList.set i v:=by
     rw[List.set_eq_take_append_cons_drop,if_pos (by simpa using AL)];simp
   rw[e1];simp only[Array.getD_eq_getD_getElem?,List.getElem?_toArray,List.getElem?_set];by_cases e2:i=p
   · subst e2;simp[AL]
   · rw[if_neg e2,if_neg (Ne.symm e2)];simp
 have CD:((row.toList.take i++[v]++row.toList.drop (i+1)).toArray).size=(M id).cap:=by
   simp;omega
 have AN:=S4 hg;refine ⟨_,Jp,?_,_,setRow_heap w _ _ _ t (0,0) Bj,CD,by rw[FH,if_pos rfl]⟩;have hh:∀j,get st.hp j=if j=id then some (.BP t e sz k rows (some i)) else get st.hp j:=fun j=>by split<;>simp_all
 have hch:=hr.change (M':=M) (hp':=st.hp) (w':=w.setRow (M id).BU (row.toList.take i++[v]++row.toList.drop (i+1)).toArray) hh (fun _ _=>rfl) (Ba.refl _ _) rfl rfl rfl (by simp)
   (fun b hb BC=>setRow_other w _ b _ (fun e=>BC _ hg (.inl ⟨Hx,e⟩))) ?_ (fun b hb=> .inl ⟨_,hg,hb⟩)
 · exact hch
 · refine ⟨hn.pos,hn.xl,hn.le,hn.max,fun _=>⟨JU,_,setRow_heap w _ _ _ t (0,0) Bj,CD,fun j r bc h2 h3 h4=>?_⟩,fun j r bc h2 h3 h4=>?_,hn.Y5,hn.dis,hn.out⟩
   · obtain ⟨ad,h5,h6⟩:=Bd j r bc h2 h3 h4;have:j≠i:=fun e=>h4 (by rw[e]);exact ⟨ad,by rw[FH,if_neg this];exact h5,h6⟩
   · refine (hn.rows j r bc h2 h3 h4).keep (fun b hb=>setRow_other w _ b _ (fun e=>JU (e ▸ hb))) (fun _ h=>h) (fun hc=>⟨setRow_other w _ _ _ (hn.out j bc h3 hc Hx),?_⟩);exact ((hn.rows j r bc h2 h3 h4).2.2.2.2 hc).1
theorem Rel.fill (hr:Rel c st a w F M) {id i q:Nat} {t e:TypeId} {sz k:Nat} {rows:List (List (List Pd))} {es:List (List Pd)} (hg:get st.hp id=some (.BP t e sz k rows (some i))) (hi:i<rows.length)
   (hq:get st.hp q=some (.arr e sz es)) (Bj:∃row,w.heap[(M id).BU]?=some (.cells row t (0,0))∧∃ad,row.getD i undef= .slice ad es.length (M q).cap∧((M q).cap=0∨ad=some ⟨(M q).BU,0,none⟩)):
   Rel c {st with hp:=Ae (Ae st.hp id (.BP t e sz (k+1) (rows.set i es) none)) q (.Df (GM (.arr sz (es.length+1))))} a w F (fun j=>if j=id then {(M id) with xs:=(M id).xs.set i ((M q).BU,(M q).cap)} else M j):=by
 have hn:FR F w (M id) t e sz rows (some i):=hr.heap.obj id _ hg;have hA:SA F w (M q) e sz es:=hr.heap.obj q _ hq;have W5:q≠id:=fun e=>by rw[e,hg] at hq;cases hq
 generalize hM':(fun j=>if j=id then {(M id) with xs:=(M id).xs.set i ((M q).BU,(M q).cap)} else M j)=M';have Ih:M' id={(M id) with xs:=(M id).xs.set i ((M q).BU,(M q).cap)}:=by rw[←hM'];simp
 have Md:∀j,j≠id→M' j=M j:=fun j h=>by rw[←hM'];simp[h]
 have AN:∀j,get (Ae (Ae st.hp id (.BP t e sz (k+1) (rows.set i es) none)) q (.Df (GM (.arr sz (es.length+1))))) j=
     if j=q then some (.Df (GM (.arr sz (es.length+1)))) else if j=id then some (.BP t e sz (k+1) (rows.set i es) none) else get st.hp j:=fun j=>by rw[A9,A9]
 have OW:sg st.hp id=some (.BP sz rows.length k):=by simp[sg,hg,AO.sg]
 have SY:sg st.hp q=some (.arr sz es.length):=by simp[sg,hq,AO.sg]
 have EU:Ba M M' (sg st.hp) (sg (Ae (Ae st.hp id (.BP t e sz (k+1) (rows.set i es) none)) q (.Df (GM (.arr sz (es.length+1)))))):=by
   refine ⟨fun j hj=>?_,fun j s2 n2 hj=>?_,fun j s2 n2 k2 hj=>?_⟩
   · have h1:j≠q:=fun e=>by rw[e,SY] at hj;cases hj
     have h2:j≠id:=fun e=>by rw[e,OW] at hj;cases hj
     refine ⟨?_,by rw[Md j h2]⟩;unfold sg at hj ⊢;rw[AN,if_neg h1,if_neg h2];exact hj
   · have h2:j≠id:=fun e=>by rw[e,OW] at hj;cases hj
     by_cases h1:j=q
     · subst h1;rw[SY] at hj;simp only[Option.some.injEq,Sg.arr.injEq] at hj;obtain ⟨rfl,rfl⟩:=hj;refine ⟨es.length+1,?_,Nat.le_succ _,fun h=>by omega⟩;unfold sg;rw[AN,if_pos rfl];rfl
     · refine ⟨n2,?_,Nat.le_refl _,fun _=>Md j h2⟩;unfold sg at hj ⊢;rw[AN,if_neg h1,if_neg h2];exact hj
   · have h1:j≠q:=fun e=>by rw[e,SY] at hj;cases hj
     by_cases h2:j=id
     · subst h2;rw[OW] at hj;simp only[Option.some.injEq,Sg.BP.injEq] at hj;obtain ⟨rfl,rfl,rfl⟩:=hj;refine ⟨_,k+1,?_,Nat.le_refl _,Nat.le_succ _,fun _=>by rw[Ih];exact ⟨rfl,rfl⟩,fun h=>by omega⟩;unfold sg;rw[AN,if_neg h1,if_pos rfl];simp[AO.sg]
     · refine ⟨n2,k2,?_,Nat.le_refl _,Nat.le_refl _,fun _=>by rw[Md j h2];exact ⟨rfl,rfl⟩,fun _=>by rw[Md j h2]⟩;unfold sg at hj ⊢;rw[AN,if_neg h1,if_neg h2];exact hj
 have Ath:i<(M id).xs.length:=by rw[hn.xl];exact hi
 have BC:∀b,(M q).cap≠0→b=(M q).BU→¬B5 (M id) b:=fun b h1 h2 h3=>W5 (hr.heap.inj q _ id _ b hq hg ⟨h1,h2⟩ h3);have Afu:∀{j r'},(rows.set i es)[j]?=some r'→(i=j∧r'=es)∨(i≠j∧rows[j]?=some r'):=by
   intro j r' h;by_cases e:i=j
   · subst e;rw[List.getElem?_set_self hi] at h;exact .inl ⟨rfl,(Option.some.inj h).symm⟩
   · rw[List.getElem?_set_ne e] at h;exact .inr ⟨e,h⟩
 have hN':FR F w (M' id) t e sz (rows.set i es) none:=by
   rw[Ih];refine ⟨hn.pos,by simp[hn.xl],by simpa using hn.le,hn.max,fun hc=>?_,fun j r' b' h1 h2 h3=>?_,fun j b' h1 h2=>(by cases h1),fun j1 j2 b1 b2 h1 h2 h3 h4 h5=>?_,fun j b' h1 h2 h3=>?_⟩
   · obtain ⟨g1,row,g2,g3,g4⟩:=hn.outer hc;refine ⟨g1,row,g2,g3,fun j r' b' h1 h2 h3=>?_⟩;rcases Afu h1 with ⟨rfl,rfl⟩ | ⟨e0,e1⟩
     · rcases CB h2 with ⟨_,rfl⟩ | ⟨h4,_⟩
       · obtain ⟨row2,g5,ad,g6,g7⟩:=Bj;rw[g2] at g5;cases g5;exact ⟨ad,g6,g7⟩
       · exact (h4 rfl).elim
     · rcases CB h2 with ⟨h4,_⟩ | ⟨_,h4⟩
       · exact (e0 h4).elim
       · exact g4 j r' b' e1 h4 (fun h=>e0 (Option.some.inj h))
   · rcases Afu h1 with ⟨rfl,rfl⟩ | ⟨e0,e1⟩
     · rcases CB h2 with ⟨_,rfl⟩ | ⟨h4,_⟩
       · exact hA
       · exact (h4 rfl).elim
     · rcases CB h2 with ⟨h4,_⟩ | ⟨_,h4⟩
       · exact (e0 h4).elim
       · exact hn.rows j r' b' e1 h4 (fun h=>e0 (Option.some.inj h))
   · rcases CB h1 with ⟨d1,e1⟩ | ⟨d1,e1⟩
     · rcases CB h2 with ⟨d2,e2⟩ | ⟨d2,e2⟩
       · exact (h3 (d1.symm.trans d2)).elim
       · intro h6;subst e1;exact BC _ h4 rfl (.inr ⟨j2,b2,e2,h5,h6⟩)
     · rcases CB h2 with ⟨d2,e2⟩ | ⟨d2,e2⟩
       · intro h6;subst e2;exact BC _ h5 rfl (.inr ⟨j1,b1,e1,h4,h6.symm⟩)
       · exact hn.dis j1 j2 b1 b2 e1 e2 h3 h4 h5
   · rcases CB h1 with ⟨d1,e1⟩ | ⟨d1,e1⟩
     · intro h6;subst e1;exact BC _ h2 rfl (.inl ⟨h3,h6⟩)
     · exact hn.out j b' e1 h2 h3
 have Ku:∀b,B5 (M' id) b→B5 (M id) b∨((M q).cap≠0∧b=(M q).BU):=by
   intro b hb;rw[Ih] at hb;rcases hb with ⟨h1,h2⟩ | ⟨j,b',h1,h2,h3⟩
   · exact .inl (.inl ⟨h1,h2⟩)
   · rcases CB h1 with ⟨_,e1⟩ | ⟨_,e1⟩
     · subst e1;exact .inr ⟨h2,h3⟩
     · exact .inl (.inr ⟨j,b',e1,h2,h3⟩)
 refine hr.Agh EU (fun j o hj=>?_) (fun j o b hj hb=>?_) (fun j o j' o' b hj ET hb O6=>?_)
 · rw[AN] at hj;split at hj
   · cases hj;exact .inr trivial
   · split at hj
     · rename_i h2;subst h2;cases hj;exact .inr hN'
     · rename_i h1 h2;exact .inl ⟨hj,Md j h2⟩
 · rw[AN] at hj;split at hj
   · cases hj;exact hb.elim
   · split at hj
     · rename_i h2;subst h2;cases hj;rcases Ku b hb with h3 | h3
       · exact ⟨j,_,hg,h3⟩
       · exact ⟨q,_,hq,h3⟩
     · rename_i h1 h2;rw[Md j h2] at hb;exact ⟨j,o,hj,hb⟩
 · rw[AN] at hj ET;have J5:∀j o,j≠q→j≠id→get st.hp j=some o→o.DO (M' j) b→B5 (M' id) b→False:=fun j o h1 h2 h3 h4 h5=>by
     rw[Md j h2] at h4;rcases Ku b h5 with h6 | h6
     · exact h2 (hr.heap.inj j o id _ b h3 hg h4 h6)
     · exact h1 (hr.heap.inj j o q _ b h3 hq h4 h6)
   split at hj
   · cases hj;exact hb.elim
   · rename_i h1;split at ET
     · cases ET;exact O6.elim
     · rename_i CO;split at hj
       · rename_i h2;subst h2;cases hj;split at ET
         · rename_i EV;exact EV.symm
         · rename_i EV;exact (J5 j' o' CO EV ET O6 hb).elim
       · rename_i h2;split at ET
         · rename_i EV;subst EV;cases ET;exact (J5 j o h1 h2 hj hb O6).elim
         · rename_i EV;rw[Md j h2] at hb;rw[Md j' EV] at O6;exact hr.heap.inj j o j' o' b hj ET hb O6
end
end Go.Am
namespace Go.Am
open Go
section
variable {P:Program} {c:Ctx} {st:St} {a:Act} {w:World} {F:Nat→Prop} {M:Nat→Mb}
theorem FU {t t2 ty e:TypeId} {u2:TypeDesc} {i:TypeInfo} (ht:P.underlying t=some (.slice e)) (ht2:P.underlying t2=some u2) (Vi:∀k,u2≠ .int k) (hi:P.info? e=some i)
   {base:Option Addr} {n cap m:Nat} {vx:Value} {news:Array Value} {w':World} (hlen:(Builtin.lenOf vx).run P w= .ok m w) (hf:(Builtin.firstCells i.size m vx).run P w= .ok news w)
   (IH:n+m≤cap) (Jp:∀ad,base=some ad→(storeCells (ad.add (n*i.size)) news.toList).run P w= .ok () w') (Atc:base=none→w'=w):
   (Builtin.append_ #[t,t2] ty #[.slice base n cap,vx]).run P w= .ok (.slice base (n+m) cap) w':=by
 have hz:(match u2 with | .int _=>true | _=>false)=false:=by cases u2<;>first | rfl | exact (Vi _ rfl).elim
 cases base with
 | none=>
   obtain rfl:=Atc rfl;simp[Builtin.append_,run_underlying ht,run_underlying ht2,hz,BE hi,hlen,IH,hf]
 | some ad=>
   simp[Builtin.append_,run_underlying ht,run_underlying ht2,hz,BE hi,hlen,IH,hf,Jp ad rfl]
theorem E2 {t t2 ty e:TypeId} {u2:TypeDesc} {i:TypeInfo} {z:Value} (ht:P.underlying t=some (.slice e)) (ht2:P.underlying t2=some u2) (Vi:∀k,u2≠ .int k) (hi:P.info? e=some i)
   (hz:i.zero=some z) {base:Option Addr} {n cap m:Nat} {vx:Value} {news GR:Array Value} (hlen:(Builtin.lenOf vx).run P w= .ok m w)
   (hf:(Builtin.firstCells i.size m vx).run P w.drew= .ok news w.drew) (hfo:(Builtin.firstCells i.size n (.slice base n cap)).run P w.drew= .ok GR w.drew)
   (IH:cap<n+m) (h63:n+m≤140737488355328) (hb:(n+m)*i.bytes≤140737488355328):
   (Builtin.append_ #[t,t2] ty #[.slice base n cap,vx]).run P w=
     .ok (.slice (some ⟨w.heap.size,0,none⟩) (n+m) (grownCap w (n+m) cap e)) (w.drew.alloc (.cells (GR++news++Builtin.zeroCells z.cells (grownCap w (n+m) cap e - (n+m))) e)):=by
 have hz':(match u2 with | .int _=>true | _=>false)=false:=by cases u2<;>first | rfl | exact (Vi _ rfl).elim
 have hn:¬(n+m≤cap):=by omega
 have Axj:¬(9223372036854775807<((n:Int)+(m:Int))):=by omega
 have Axk:¬(281474976710656<Builtin.nextslicecap (n+m) cap*i.bytes):=by
   have:=growslice_fits IH hb;omega
 simp[Builtin.append_,run_underlying ht,run_underlying ht2,hz',BE hi,hlen,hn,Axj,Axk,typeInfo,hi,Question.forced,hf,hfo,zeroValue,hz,newRow,grownCap]
structure Src (P:Program) (w:World) (F:Nat→Prop) (sz:Nat) (vx:Value) (ys:List (List Pd)) (news:List Value):Prop where
 len:∀w1:World,(Builtin.lenOf vx).run P w1= .ok ys.length w1
 cells:∀w1:World,w1.heap=w.heap→(Builtin.firstCells sz ys.length vx).run P w1= .ok news.toArray w1
 pre:∀n,n≤ys.length→∀w1:World,w1.heap=w.heap→(Builtin.firstCells sz n vx).run P w1= .ok (news.take (n*sz)).toArray w1
 size:news.length=ys.length*sz
 data:∀(i:Nat) y (j:Nat) x,ys[i]?=some y→y[j]?=some x→PR F w x (news.getD (i*sz+j) undef)
theorem I4 {es:List (List Pd)} {ad:Option Addr} {cap sz:Nat} (CD:∀y∈es,y.length=sz)
   (h:es≠[]→∃b off row t fr,ad=some ⟨b,off,none⟩∧w.heap[b]?=some (.cells row t fr)∧(off+es.length*sz≤row.size)∧
     ∀(i:Nat) e (j:Nat) c,es[i]?=some e→e[j]?=some c→PR F w c (row.getD (off+i*sz+j) undef)):∃news,Src P w F sz (.slice ad es.length cap) es news:=by
 by_cases h0:es=[]
 · subst h0;exact ⟨[],⟨fun w1=>by simp[Builtin.lenOf],fun w1 _=>by cases ad<;>simp[Builtin.firstCells,loadCells,loadCellsFrom],fun n hn w1 _=>by
     obtain rfl:n=0:=by simpa using hn
     cases ad<;>simp[Builtin.firstCells,loadCells,loadCellsFrom],by simp,fun i y j x hy _=>by simp at hy⟩⟩
 · obtain ⟨b,off,row,t,fr,rfl,hh,Aql,hp⟩:=h h0;have hlen:((row.toList.drop off).take (es.length*sz)).length=es.length*sz:=by simp;omega
   refine ⟨(row.toList.drop off).take (es.length*sz),⟨fun w1=>by simp[Builtin.lenOf],fun w1 NL=>?_,fun n hn w1 NL=>?_,hlen,fun i y j x hy hx=>?_⟩⟩
   · refine run_firstCells_some (P:=P) w1 sz es.length ⟨b,off,none⟩ es.length cap _ hlen (fun j v hv=>?_);rw[Addr.add_lit,cell_of_row w1 b (off+j) row t fr (by rw[NL];exact hh)];rw[List.getElem?_take] at hv;split at hv
     · simpa using hv
     · cases hv
   · refine run_firstCells_some (P:=P) w1 sz n ⟨b,off,none⟩ es.length cap _ (by rw[List.length_take,hlen];exact Nat.min_eq_left (Nat.mul_le_mul_right _ hn)) (fun j v hv=>?_);rw[Addr.add_lit,cell_of_row w1 b (off+j) row t fr (by rw[NL];exact hh)];rw[List.getElem?_take] at hv;split at hv
     · rw[List.getElem?_take] at hv;split at hv
       · simpa using hv
       · cases hv
     · cases hv
   · have:=hp i y j x hy hx;have AL:i*sz+j<es.length*sz:=by
       have h1:=(List.getElem?_eq_some_iff.1 hy).1;have h2:=(List.getElem?_eq_some_iff.1 hx).1;exact Hg h1 (Nat.le_refl _) (by have:=CD y (List.mem_of_getElem? hy);omega)
     rw[List.getD_eq_getElem?_getD,List.getElem?_take,if_pos AL,List.getElem?_drop];rwa[Array.getD_eq_getD_getElem?,Nat.add_assoc,←Array.getElem?_toList] at this
theorem Lj {es:List (List Pd)} {v:Value} (h:PR F w (.sl es) v) {sz:Nat} (CD:∀y∈es,y.length=sz) (DT:0<sz):∃news,Src P w F sz v es news:=by
 cases h with
 | Tk ad cap=>exact I4 (es:=[]) CD (fun h=>(h rfl).elim)
 | sl _ b off cap Pv row t fr hF hh hc hs hi hp=>
   refine I4 CD (fun h0=>?_);have Aoo:0<es.length:=List.length_pos_iff.2 h0;have e0:es[0]?=some es[0]:=List.getElem?_eq_getElem Aoo;have hz:Pv=sz:=(hs 0 _ e0).symm.trans (CD _ (List.getElem_mem Aoo));subst hz;refine ⟨b,off,row,t,fr,rfl,hh,?_,hp⟩;have el:es[es.length - 1]?=some es[es.length - 1]:=List.getElem?_eq_getElem (by omega);have hl:=hs _ _ el;have:=hi _ _ (Pv - 1) _ el (List.getElem?_eq_getElem (by omega));have e2:es.length*Pv=(es.length - 1)*Pv+Pv:=by rw[←Nat.succ_mul];congr 1;omega
   omega
theorem YI (l:List UInt8) {sz:Nat} (CD:∀y∈Co l,y.length=sz):Src P w F sz (.string ⟨l.toArray⟩) (Co l) (l.map fun b=>Value.int .u8 b.toNat):=by
 have hlen:(Co l).length=l.length:=by simp[Co]
 have hs:l.length*sz=l.length:=by
   cases l with
   | nil=>simp
   | cons b r=>have:=CD [Pd.int .u8 b.toNat] (by simp[Co]);simp at this;subst this;simp
 refine ⟨fun w1=>by simp[Builtin.lenOf,hlen,FZ],fun w1 _=>?_,fun n hn w1 _=>?_,by simp[hlen,hs],fun i y j x hy hx=>?_⟩
 · simp only[Builtin.firstCells,hlen,Sem.run_pure]
   congr 1
   apply Array.ext';simp
 · have hns:n*sz=n:=by
     cases l with
     | nil=>simp[Co] at hn;simp[hn]
     | cons b r=>have:=CD [Pd.int .u8 b.toNat] (by simp[Co]);simp at this;subst this;simp
   simp only[Builtin.firstCells,hns,Sem.run_pure]
   congr 1
   apply Array.ext';simp[List.map_take]
 · simp only[Co,List.getElem?_map] at hy;cases hb:l[i]? with
   | none=>rw[hb] at hy;cases hy
   | some b=>
     rw[hb] at hy;simp only[Option.map_some,Option.some.injEq] at hy;subst hy;cases j with
     | succ j=>simp at hx
     | zero=>
       simp only[List.getElem?_cons_zero,Option.some.injEq] at hx;subst hx;have hz:sz=1:=by
         have:=CD [Pd.int .u8 b.toNat] (by simp only[Co,List.mem_map];exact ⟨b,List.mem_of_getElem? hb,rfl⟩)
         simpa using this.symm
       subst hz;simp only[Nat.mul_one,Nat.add_zero];rw[List.getD_eq_getElem?_getD,List.getElem?_map,hb];exact .int _ _
theorem L6 {α:Type} {x:α} {l:List α} {n m:Nat} (h:x∈(l.drop n).take m):x∈l:=List.mem_of_mem_drop (List.mem_of_mem_take h)
theorem QN (hr:HR F w M st.hp) {id off len sz:Nat} {es:List (List Pd)} {v:Value} (hg:(∃t,get st.hp id=some (.arr t sz es))∨get st.hp id=some (.J3 sz es))
   (h:PB (M id) sz es.length off len v):∃news,Src P w F sz v ((es.drop off).take len) news:=by
 obtain ⟨ad,cap,rfl,h1,h2,h3,h4⟩:=h;obtain ⟨h5,h6,h7,h8⟩:=hr.row hg;have hlen:((es.drop off).take len).length=len:=by simp;omega
 have AN:∀(i:Nat) e,((es.drop off).take len)[i]?=some e→es[off+i]?=some e:=fun i e he=>by
   rw[List.getElem?_take] at he;split at he
   · rwa[List.getElem?_drop] at he
   · cases he
 have key:=I4 (P:=P) (w:=w) (F:=F) (es:=(es.drop off).take len) (ad:=ad) (cap:=cap) (sz:=sz) (fun y hy=>by
   obtain ⟨i,hi⟩:=List.mem_iff_getElem?.1 (L6 hy);exact h7 i y hi) (fun h0=>by
   have hl0:0<len:=by
     rcases Nat.eq_zero_or_pos len with h | h
     · subst h;simp at h0
     · exact h
   have h9:=h4.resolve_left (by omega);subst h9;obtain ⟨row,t,fr,Lx,Yw,S3⟩:=h8 (by omega);refine ⟨_,_,row,t,fr,rfl,Lx,?_,fun i e j x he hx=>?_⟩
   · rw[hlen,Yw,←Nat.add_mul];exact Nat.mul_le_mul_right _ (by omega)
   · have:=S3 _ e j x (AN i e he) hx;rwa[Nat.add_mul] at this)
 rw[hlen] at key;exact key
theorem QP (hr:Rel c st a w F M) {d:D} {v:Value} (hd:DR F w M (sg st.hp) d v) {k:List (List Pd)→Prop} (h:Kb st.hp d k):
   ∃ys,k ys∧∀sz,0<sz→(∀y∈ys,y.length=sz)→∃news,Src P w F sz v ys news:=by
 have ref:∀{id off len N Pv n} {es:List (List Pd)},((∃t,get st.hp id=some (.arr t Pv es))∨get st.hp id=some (.J3 Pv es))→sg st.hp id=some (.arr Pv es.length)→N=es.length→
     DR F w M (sg st.hp) (.ref id off len N) v→n=len→∀sz,0<sz→(∀y∈(es.drop off).take len,y.length=sz)→∃news,Src P w F sz v ((es.drop off).take len) news:=by
   intro id off len N Pv n es hg E9 hN hd _ sz DT CD;cases hd with
   | ref _ _ _ _ M3 n2 _ hs hN2 hv h2=>
     rw[E9] at hs;simp only[Option.some.injEq,Sg.arr.injEq] at hs;obtain ⟨rfl,rfl⟩:=hs;have MC:=h2 hN;by_cases h0:(es.drop off).take len=[]
     · obtain ⟨ad,cap,rfl,h3,_⟩:=MC;rw[h0];have:len=0:=by
         have:=congrArg List.length h0;simp at this;omega
       subst this;exact I4 (es:=[]) (by simp) (fun h=>(h rfl).elim)
     · obtain ⟨y,hy⟩:=List.exists_mem_of_ne_nil _ h0;have e1:=CD y hy;obtain ⟨i,hi⟩:=List.mem_iff_getElem?.1 (L6 hy);have e2:=(hr.heap.row hg).2.2.1 i y hi;have:Pv=sz:=by omega
       subst this;exact QN hr.heap hg MC
 unfold Kb at h;split at h
 · rename_i ys;cases hd with | p hx=>exact ⟨ys,h,fun sz DT CD=>Lj hx CD DT⟩
 · rename_i l;cases hd with | p hx=>cases hx;exact ⟨_,h,fun sz _ CD=>⟨_,YI l CD⟩⟩
 · rename_i ys;cases hd with | cl _ ad hx _=>exact ⟨ys,h,fun sz DT CD=>Lj hx CD DT⟩
 · rename_i id off len N;split at h
   · rename_i t Pv es ho;exact ⟨_,h.2,ref (n:=len) (.inl ⟨t,ho⟩) (Bg ho) h.1 hd rfl⟩
   · rename_i Pv es ho;exact ⟨_,h.2,ref (n:=len) (.inr ho) (Bg ho) h.1 hd rfl⟩
   · exact h.elim
 · exact h.elim
theorem EW (z:Array Value) (n:Nat):(Builtin.zeroCells z n).size=n*z.size:=by simp[Builtin.zeroCells]
theorem HU {es ys:List (List Pd)} {sz:Nat} {GR news rest:List Value} (TT:GR.length=es.length*sz) (J7:news.length=ys.length*sz)
   (HQ:∀(i:Nat) e,es[i]?=some e→e.length=sz) (NK:∀(i:Nat) e,ys[i]?=some e→e.length=sz)
   (ho:∀(i:Nat) y (j:Nat) x,es[i]?=some y→y[j]?=some x→PR F w x (GR.getD (i*sz+j) undef))
   (hn:∀(i:Nat) y (j:Nat) x,ys[i]?=some y→y[j]?=some x→PR F w x (news.getD (i*sz+j) undef)) (i:Nat) (y:List Pd) (j:Nat) (x:Pd)
   (hy:(es++ys)[i]?=some y) (hx:y[j]?=some x):PR F w x ((GR++news++rest).getD (i*sz+j) undef):=by
 have hj:=(List.getElem?_eq_some_iff.1 hx).1;rw[List.getElem?_append] at hy;rw[List.append_assoc,List.getD_eq_getElem?_getD];split at hy
 · rename_i AL;have:=Hg AL (Nat.le_refl _) (show j<sz by have:=HQ i y hy;omega);rw[List.getElem?_append_left (by omega),←List.getD_eq_getElem?_getD];exact ho i y j x hy hx
 · rename_i hge;have AL:=(List.getElem?_eq_some_iff.1 hy).1;have h1:=Hg AL (Nat.le_refl _) (show j<sz by have:=NK _ y hy;omega);have h2:es.length*sz≤i*sz:=Nat.mul_le_mul_right _ (by omega);have h3:i*sz+j - es.length*sz=(i - es.length)*sz+j:=by rw[Nat.sub_mul];omega
   rw[List.getElem?_append_right (by omega),TT,h3,List.getElem?_append_left (by omega),←List.getD_eq_getElem?_getD];exact hn _ y j x hy hx
theorem FG (v:Value):(GS v).cells.length=v.cells.size:=by
 have hl:∀l:List Value,(LP l).length=l.length:=fun l=>by
   induction l with
   | nil=>rfl
   | cons v r ih=>simp[LP,ih]
 cases v with
 | agg cs=>simp[GS,D.cells,Value.cells,hl]
 | slice ad l q=>cases ad<;>(try cases l)<;>(try cases q)<;>simp[GS,D.cells,Value.cells]
 | pointer q=>cases q<;>simp[GS,D.cells,Value.cells]
 | _=>simp[GS,D.cells,Value.cells]
theorem Rel.Ra (hr:Rel c st a w F M) {q sz:Nat} {e:TypeId} (hn:get st.hp q=none) (CD:0<sz):
   Rel c {st with hp:=(q,.arr e sz [])::st.hp} a w F (Du M q ⟨0,0,[]⟩)∧∀ad,DR F w (Du M q ⟨0,0,[]⟩) (sg ((q,.arr e sz [])::st.hp)) (.ref q 0 0 0) (.slice ad 0 0):=by
 have AN:=Jv st.hp q (.arr e sz []);have hM:∀j,j≠q→Du M q ⟨0,0,[]⟩ j=M j:=fun j hj=>by simp[Du,hj]
 have HM:Du M q ⟨0,0,[]⟩ q=⟨0,0,[]⟩:=by simp[Du]
 have EU:=Em AN hM hn;refine ⟨hr.change AN hM EU rfl rfl rfl (Nat.le_refl _) (fun b hb _=>rfl) ?_ (fun b h=>?_),fun ad=>?_⟩
 · rw[HM];exact ⟨CD,by simp,by simp,by simp,fun h=>(h rfl).elim⟩
 · rw[HM] at h;exact (h.1 rfl).elim
 · exact .ref q 0 0 0 sz 0 _ (by rw[Bv AN];simp[AO.sg]) (Nat.le_refl _) ⟨_,_,_,rfl⟩ (fun _=>⟨ad,0,rfl,by omega,by omega,by rw[HM],.inl rfl⟩)
theorem P5 (hr:Rel c st a w F M) {q t t2 ty:TypeId} {s x:D} {vs vx:Value} (hs:DR F w M (sg st.hp) s vs) (hx:DR F w M (sg st.hp) x vx) {k:D→Hp→Prop} (hnr:∀id i len kk,s≠ .nr id i len kk)
   (h:X7 P st.hp q t t2 s x k):∃d h' v w' M',k d h'∧Rel c {st with hp:=h'} a w' F M'∧DR F w' M' (sg h') d v∧(Builtin.append_ #[t,t2] ty #[vs,vx]).run P w= .ok v w':=by
 unfold X7 at h;split at h
 case h_2=>exact h.elim
 rename_i _ _ _ _ e z0 ti2 h1 h2;obtain ⟨i1,u1,z1,HP,Dr,hz1,e1⟩:=Az h1;simp only[TI.mk.injEq] at e1;obtain rfl:=TK.of_slice e1.2.2.1.symm;obtain ⟨i2,u2,z2,C0,KL,hz2,rfl⟩:=Az h2;obtain ⟨HL,h⟩:=h;have Vi:∀k,u2≠ .int k:=by rintro k rfl;simp[TK.of] at HL
 split at h
 case h_2=>exact h.elim
 rename_i ti h3;obtain ⟨i,u,z,hi,hu,hz,rfl⟩:=Az h3;obtain ⟨ys,h',Abt⟩:=QP (P:=P) hr hx h;clear h;obtain ⟨NK,DT,hzl,h⟩:=h';simp only at DT hzl NK;rw[FG] at hzl;obtain ⟨news,Ce⟩:=Abt i.size DT NK;have SW:∀(j:Nat) e,ys[j]?=some e→e.length=i.size:=fun j e he=>NK e (List.mem_of_getElem? he);have gr:∀{n cap:Nat},n+ys.length≤140737488355328→n+ys.length≤grownCap w (n+ys.length) cap e∧grownCap w (n+ys.length) cap e≤maxLen:=
   fun hle=>⟨grownCap_ge w _ _ _,grownCap_le_maxLen w _ _ _ (by unfold maxLen;omega)⟩
 split at h
 · rename_i es;obtain ⟨hn,hor,HQ,r4,hle,hk⟩:=h;simp only at HQ r4;cases hs with
   | cl _ ad hp _=>
     obtain ⟨GR,holds⟩:=Lj (P:=P) hp HQ DT;by_cases Yj:ys=[]
     · subst Yj;obtain rfl:es=[]:=by rcases hor with h | h<;>first | exact h | exact (h rfl).elim
       have J7:news=[]:=List.eq_nil_of_length_eq_zero (by simpa using Ce.size);subst J7;obtain ⟨IZ,Vm⟩:=hr.Ra (e:=e) hn DT;have BW:=FU (P:=P) (w:=w) (ty:=ty) (w':=w) Dr KL Vi hi (base:=ad) (n:=0) (cap:=0) (Ce.len w) (Ce.cells w rfl) (by simp) (fun ad' _=>rfl) (fun _=>rfl);exact ⟨_,_,_,w,_,hk,IZ,Vm ad,BW⟩
     · have hyl:0<ys.length:=List.length_pos_iff.2 Yj;have BW:=E2 (P:=P) (w:=w) (ty:=ty) Dr KL Vi hi hz (base:=ad) (n:=es.length) (cap:=es.length) (Ce.len w) (Ce.cells w.drew rfl)
         (by have:=holds.cells w.drew rfl;exact this) (by omega) hle r4
       obtain ⟨O4,TX⟩:=gr (n:=es.length) (cap:=es.length) hle;have hlen:(es++ys).length=es.length+ys.length:=by simp
       obtain ⟨IZ,Vm⟩:=hr.UW (q:=q) (cap:=grownCap w (es.length+ys.length) es.length e) (sz:=i.size) (es:=es++ys) (e:=e)
         (vs:=GR.toArray++news.toArray++Builtin.zeroCells z.cells (grownCap w (es.length+ys.length) es.length e - (es.length+ys.length)))
         (w':=w.drew.alloc (.cells (GR.toArray++news.toArray++Builtin.zeroCells z.cells (grownCap w (es.length+ys.length) es.length e - (es.length+ys.length))) e))
         hn rfl rfl rfl rfl DT (by omega) TX (fun j x hj=>by
           rw[List.getElem?_append] at hj;split at hj
           · exact HQ x (List.mem_of_getElem? hj)
           · exact SW _ x hj) (by
           simp only[Array.size_append,List.size_toArray,EW,hzl,holds.size,Ce.size,←Nat.add_mul]
           congr 1;omega) (fun j y p x hy hx=>by
           have:=HU (rest:=(Builtin.zeroCells z.cells (grownCap w (es.length+ys.length) es.length e - (es.length+ys.length))).toList) holds.size Ce.size
             (fun j e he=>HQ e (List.mem_of_getElem? he)) SW holds.data Ce.data j y p x hy hx
           simpa [List.getD,Array.getD_eq_getD_getElem?,←Array.getElem?_toList] using this)
       rw[hlen] at Vm;exact ⟨_,_,_,_,_,hk,IZ,by rw[hlen];exact Vm,BW⟩
 · rename_i es;obtain ⟨hn,Yj,HQ,r4,hle,hk⟩:=h;simp only at HQ r4;cases hs with
   | cz _ ad hp=>
     obtain ⟨GR,holds⟩:=Lj (P:=P) hp HQ DT;have hyl:0<ys.length:=List.length_pos_iff.2 Yj;have BW:=E2 (P:=P) (w:=w) (ty:=ty) Dr KL Vi hi hz (base:=ad) (n:=es.length) (cap:=es.length) (Ce.len w) (Ce.cells w.drew rfl)
       (by have:=holds.cells w.drew rfl;exact this) (by omega) hle r4
     obtain ⟨O4,TX⟩:=gr (n:=es.length) (cap:=es.length) hle;have hlen:(es++ys).length=es.length+ys.length:=by simp
     obtain ⟨IZ,Vm⟩:=hr.UW (q:=q) (cap:=grownCap w (es.length+ys.length) es.length e) (sz:=i.size) (es:=es++ys) (e:=e)
       (vs:=GR.toArray++news.toArray++Builtin.zeroCells z.cells (grownCap w (es.length+ys.length) es.length e - (es.length+ys.length)))
       (w':=w.drew.alloc (.cells (GR.toArray++news.toArray++Builtin.zeroCells z.cells (grownCap w (es.length+ys.length) es.length e - (es.length+ys.length))) e))
       hn rfl rfl rfl rfl DT (by omega) TX (fun j x hj=>by
         rw[List.getElem?_append] at hj;split at hj
         · exact HQ x (List.mem_of_getElem? hj)
         · exact SW _ x hj) (by
         simp only[Array.size_append,List.size_toArray,EW,hzl,holds.size,Ce.size,←Nat.add_mul]
         congr 1;omega) (fun j y p x hy hx=>by
         have:=HU (rest:=(Builtin.zeroCells z.cells (grownCap w (es.length+ys.length) es.length e - (es.length+ys.length))).toList) holds.size Ce.size
           (fun j e he=>HQ e (List.mem_of_getElem? he)) SW holds.data Ce.data j y p x hy hx
         simpa [List.getD,Array.getD_eq_getD_getElem?,←Array.getElem?_toList] using this)
     rw[hlen] at Vm;exact ⟨_,_,_,_,_,hk,IZ,by rw[hlen];exact Vm,BW⟩
 · rename_i id off len N;split at h
   case h_2=>exact h.elim
   rename_i e' sz es ho;obtain ⟨rfl,rfl,rfl,rfl,rfl,r4,hle,hk⟩:=h;simp only at r4;have hob:=hr.heap.obj id _ ho;obtain ⟨_,Ot,hcm,HQ,O5⟩:=hob;simp only at HQ Ot;cases hs with
   | ref _ _ _ _ M3 n2 _ E9 hN2 hv h2=>
     rw[Bg ho] at E9;simp only[AO.sg,Option.some.injEq,Sg.arr.injEq] at E9;obtain ⟨rfl,rfl⟩:=E9;obtain ⟨ad,cap,rfl,h5,h6,h7,h8⟩:=h2 rfl;simp only[Nat.zero_add] at h7;subst h7;have hlen:(es++ys).length=es.length+ys.length:=by simp
     have B4:∀(j:Nat) x,(es++ys)[j]?=some x→x.length=i.size:=fun j x hj=>by
       rw[List.getElem?_append] at hj;split at hj
       · exact HQ j x hj
       · exact SW _ x hj
     have AN:∀j,get (Ae st.hp id (.arr e' i.size (es++ys))) j=if j=id then some (.arr e' i.size (es++ys)) else get st.hp j:=A9 _ _ _
     have Vg:sg (Ae st.hp id (.arr e' i.size (es++ys))) id=some (.arr i.size (es++ys).length):=by rw[Bv AN];simp[AO.sg]
     by_cases IH:es.length+ys.length≤(M id).cap
     ·
       have EU:Ba M M (sg st.hp) (sg (Ae st.hp id (.arr e' i.size (es++ys)))):=by
         refine ⟨fun j hj=>?_,fun j s2 n2 hj=>?_,fun j s2 n2 k2 hj=>?_⟩
         · have e2:j≠id:=fun e2=>by rw[e2,Bg ho] at hj;simp[AO.sg] at hj
           rw[Bv AN,if_neg e2];exact ⟨hj,rfl⟩
         · by_cases e2:j=id
           · subst e2;rw[Bg ho] at hj;simp only[AO.sg,Option.some.injEq,Sg.arr.injEq] at hj;obtain ⟨rfl,rfl⟩:=hj;exact ⟨_,Vg,by omega,fun _=>rfl⟩
           · rw[Bv AN,if_neg e2];exact ⟨n2,hj,Nat.le_refl _,fun _=>rfl⟩
         · have e2:j≠id:=fun e2=>by rw[e2,Bg ho] at hj;simp[AO.sg] at hj
           rw[Bv AN,if_neg e2];exact ⟨n2,k2,hj,Nat.le_refl _,Nat.le_refl _,fun _=>⟨rfl,rfl⟩,fun _=>rfl⟩
       have S1:∀w',DR F w' M (sg (Ae st.hp id (.arr e' i.size (es++ys)))) (.ref id 0 (es++ys).length (es++ys).length) (.slice ad (es.length+ys.length) (M id).cap):=fun w'=>by
         rw[hlen] at Vg ⊢;exact .ref id 0 _ _ i.size _ _ Vg (Nat.le_refl _) ⟨_,_,_,rfl⟩ (fun _=>⟨ad,_,rfl,by omega,IH,by omega,h8⟩)
       by_cases SH:(M id).cap=0
       · have Yj:ys=[]:=List.eq_nil_of_length_eq_zero (by omega);subst Yj;have J7:news=[]:=List.eq_nil_of_length_eq_zero (by simpa using Ce.size);subst J7;have BW:=FU (P:=P) (w:=w) (ty:=ty) (w':=w) Dr KL Vi hi (base:=ad) (n:=es.length) (Ce.len w) (Ce.cells w rfl) IH (fun ad' _=>rfl) (fun _=>rfl);refine ⟨_,_,_,w,M,hk,hr.change (M':=M) AN (fun _ _=>rfl) EU rfl rfl rfl (Nat.le_refl _) (fun b hb _=>rfl) ⟨DT,by omega,hcm,B4,fun h=>(h SH).elim⟩ (fun b h=>(h.1 SH).elim),S1 w,BW⟩
       · obtain rfl:=h8.resolve_left SH;obtain ⟨JU,row,Bj,E8,Bd⟩:=O5 SH;have Aql:es.length*i.size+ys.length*i.size≤row.size:=by rw[E8,←Nat.add_mul];exact Nat.mul_le_mul_right _ IH
         have LV:∀v∈news,v.oneCell'=true:=fun v hv=>by
           obtain ⟨p,hp⟩:=List.mem_iff_getElem?.1 hv;have AL:=(List.getElem?_eq_some_iff.1 hp).1;have hs:=Ce.size;have hdiv:p / i.size<ys.length:=Nat.div_lt_of_lt_mul (by rw[Nat.mul_comm];omega);have hy:ys[p / i.size]?=some ys[p / i.size]:=List.getElem?_eq_getElem hdiv;have W9:p % i.size<(ys[p / i.size]).length:=by rw[SW _ _ hy];exact Nat.mod_lt _ DT
           have:=(Ce.data _ _ _ _ hy (List.getElem?_eq_getElem W9)).HY;rwa[Nat.mul_comm,Nat.div_add_mod,List.getD_eq_getElem?_getD,hp] at this
         have Jp:=Dg P (M id).BU (es.length*i.size) e' news 0 row w Bj (by have:=Ce.size;omega) LV;simp only[Nat.add_zero] at Jp;have BW:=FU (P:=P) (w:=w) (ty:=ty) Dr KL Vi hi (base:=some ⟨(M id).BU,0*i.size,none⟩) (n:=es.length) (Ce.len w) (Ce.cells w rfl) IH
           (fun ad' e3=>by cases e3;rw[Addr.add_lit];simp only[Nat.zero_mul,Nat.zero_add];exact Jp) (fun e3=>by cases e3)
         refine ⟨_,_,_,(w.setRow (M id).BU (row.toList.take (es.length*i.size)++news++row.toList.drop (es.length*i.size+news.length)).toArray),M,hk,hr.change (M':=M) (w':=(w.setRow (M id).BU (row.toList.take (es.length*i.size)++news++row.toList.drop (es.length*i.size+news.length)).toArray)) AN (fun _ _=>rfl) EU rfl rfl rfl (by simp) (fun b hb BC=>setRow_other w _ b _ (fun e=>BC _ ho ⟨SH,e⟩)) ?_ (fun b hb=> .inl ⟨_,ho,hb⟩),S1 _,BW⟩;have Fu:∀{x v},PR F w x v→PR F (w.setRow (M id).BU (row.toList.take (es.length*i.size)++news++row.toList.drop (es.length*i.size+news.length)).toArray) x v:=
           fun h=>h.keep (fun b hb=>setRow_other w _ b _ (fun e=>JU (e ▸ hb))) (fun _ h=>h)
         have TT:(row.toList.take (es.length*i.size)).length=es.length*i.size:=by simp;omega
         refine ⟨DT,by omega,hcm,B4,fun _=>⟨JU,_,Bj.set ?_,?_,fun j y p x hy hx=>?_⟩⟩
         · have S3:=Ce.size;have h13:(row.toList.take (es.length*i.size)++news++row.toList.drop (es.length*i.size+news.length)).length=row.size:=by
             simp only[List.length_append,List.length_take,List.length_drop,Array.length_toList];omega
           exact h13
         · have S3:=Ce.size;have h13:(row.toList.take (es.length*i.size)++news++row.toList.drop (es.length*i.size+news.length)).length=row.size:=by
             simp only[List.length_append,List.length_take,List.length_drop,Array.length_toList];omega
           exact h13.trans E8
         · have:=HU (F:=F) (w:=w) (rest:=row.toList.drop (es.length*i.size+news.length)) TT Ce.size HQ SW (fun j y p x hy hx=>by
             have h9:=Bd j y p x hy hx;have AL:=Hg (List.getElem?_eq_some_iff.1 hy).1 (Nat.le_refl _) (show p<i.size by have:=(List.getElem?_eq_some_iff.1 hx).1;have:=HQ j y hy;omega);rw[List.getD_eq_getElem?_getD,List.getElem?_take,if_pos AL];rwa[Array.getD_eq_getD_getElem?,←Array.getElem?_toList] at h9) Ce.data j y p x hy hx
           have Lx:=Fu this;rw[Array.getD_eq_getD_getElem?,List.getElem?_toArray];rwa[List.getD_eq_getElem?_getD] at Lx
     ·
       have hyl:0<ys.length:=by omega
       have Aqb:PB (M id) i.size es.length 0 es.length (.slice ad es.length (M id).cap):=⟨ad,_,rfl,by omega,h6,by omega,h8⟩;obtain ⟨GR,holds⟩:=QN (P:=P) hr.heap (.inl ⟨e',ho⟩) Aqb;have Asv:(es.drop 0).take es.length=es:=by simp
       rw[Asv] at holds;have BW:=E2 (P:=P) (w:=w) (ty:=ty) Dr KL Vi hi hz (base:=ad) (n:=es.length) (cap:=(M id).cap) (Ce.len w) (Ce.cells w.drew rfl)
         (by have:=holds.cells w.drew rfl;exact this) (by omega) hle r4
       obtain ⟨O4,TX⟩:=gr (n:=es.length) (cap:=(M id).cap) hle;have hM:∀j,j≠id→Du M id ⟨w.heap.size,grownCap w (es.length+ys.length) (M id).cap e',[]⟩ j=M j:=fun j hj=>by simp[Du,hj]
       have HM:Du M id ⟨w.heap.size,grownCap w (es.length+ys.length) (M id).cap e',[]⟩ id=⟨w.heap.size,grownCap w (es.length+ys.length) (M id).cap e',[]⟩:=by simp[Du]
       have EU:Ba M (Du M id ⟨w.heap.size,grownCap w (es.length+ys.length) (M id).cap e',[]⟩) (sg st.hp) (sg (Ae st.hp id (.arr e' i.size (es++ys)))):=by
         refine ⟨fun j hj=>?_,fun j s2 n2 hj=>?_,fun j s2 n2 k2 hj=>?_⟩
         · have e2:j≠id:=fun e2=>by rw[e2,Bg ho] at hj;simp[AO.sg] at hj
           rw[Bv AN,if_neg e2,hM j e2];exact ⟨hj,rfl⟩
         · by_cases e2:j=id
           · subst e2;rw[Bg ho] at hj;simp only[AO.sg,Option.some.injEq,Sg.arr.injEq] at hj;obtain ⟨rfl,rfl⟩:=hj;exact ⟨_,Vg,by omega,fun h=>by omega⟩
           · rw[Bv AN,if_neg e2,hM j e2];exact ⟨n2,hj,Nat.le_refl _,fun _=>rfl⟩
         · have e2:j≠id:=fun e2=>by rw[e2,Bg ho] at hj;simp[AO.sg] at hj
           rw[Bv AN,if_neg e2,hM j e2];exact ⟨n2,k2,hj,Nat.le_refl _,Nat.le_refl _,fun _=>⟨rfl,rfl⟩,fun _=>rfl⟩
       refine ⟨_,_,_,(w.drew.alloc (.cells (GR.toArray++news.toArray++Builtin.zeroCells z.cells (grownCap w (es.length+ys.length) (M id).cap e' - (es.length+ys.length))) e')),_,hk,hr.change (w':=(w.drew.alloc (.cells (GR.toArray++news.toArray++Builtin.zeroCells z.cells (grownCap w (es.length+ys.length) (M id).cap e' - (es.length+ys.length))) e'))) AN hM EU rfl rfl rfl (by simp) (fun b hb _=>alloc_old w.drew _ b hb) ?_ (fun b hb=> .inr (by have:b=_:=hb.2;rw[this,HM];exact Nat.le_refl _)),?_,BW⟩
       · rw[HM];refine ⟨DT,by simp;omega,TX,B4,fun _=>⟨fun hF=>Nat.lt_irrefl _ (hr.keep.Fl _ hF),_,.of0 (heap_alloc_new w.drew _),?_,fun j y p x hy hx=>?_⟩⟩
         · simp only[Array.size_append,List.size_toArray,EW,hzl,holds.size,Ce.size,←Nat.add_mul]
           congr 1;omega
         · have:=HU (F:=F) (w:=w) (rest:=(Builtin.zeroCells z.cells (grownCap w (es.length+ys.length) (M id).cap e' - (es.length+ys.length))).toList) holds.size Ce.size
             HQ SW holds.data Ce.data j y p x hy hx
           have Yw:PR F w x ((GR.toArray++news.toArray++Builtin.zeroCells z.cells (grownCap w (es.length+ys.length) (M id).cap e' - (es.length+ys.length))).getD (j*i.size+p) undef):=by
             simpa [List.getD,Array.getD_eq_getD_getElem?,←Array.getElem?_toList] using this
           exact Yw.keep (fun b hb=>alloc_old w.drew _ b (hr.keep.Fl b hb)) (fun _ h=>h)
       · rw[hlen] at Vg ⊢;exact .ref id 0 _ _ i.size _ _ Vg (Nat.le_refl _) ⟨_,_,_,rfl⟩ (fun _=>⟨_,_,rfl,by omega,O4,by rw[HM];exact Nat.zero_add _,.inr (by rw[HM];simp)⟩)
 · exact (hnr _ _ _ _ rfl).elim
 · exact h.elim
theorem XO (hr:Rel c st a w F M) {t t2 ty:TypeId} {s x:D} {vs vx:Value} (hs:DR F w M (sg st.hp) s vs) (hx:DR F w M (sg st.hp) x vx) {k:D→Hp→Prop}
   (h:XP P st.hp t s x k):∃d h' v w' M',k d h'∧Rel c {st with hp:=h'} a w' F M'∧DR F w' M' (sg h') d v∧(Builtin.copy_ #[t,t2] ty #[vs,vx]).run P w= .ok v w':=by
 unfold XP at h;split at h
 case h_2=>exact h.elim
 rename_i _ _ _ e z0 h1;obtain ⟨i1,u1,z1,HP,Dr,hz1,e1⟩:=Az h1;simp only[TI.mk.injEq] at e1;obtain rfl:=TK.of_slice e1.2.2.1.symm;split at h
 case h_2=>exact h.elim
 rename_i ti h3;obtain ⟨i,u,z,hi,hu,hz,rfl⟩:=Az h3;obtain ⟨ys,h',Abt⟩:=QP (P:=P) hr hx h;clear h;obtain ⟨NK,DT,h⟩:=h';simp only at DT NK;obtain ⟨news,Ce⟩:=Abt i.size DT NK;have SW:∀(j:Nat) e,ys[j]?=some e→e.length=i.size:=fun j e he=>NK e (List.mem_of_getElem? he);split at h
 case h_2=>exact h.elim
 rename_i id off len N;split at h
 case h_2=>exact h.elim
 rename_i e' sz es ho;obtain ⟨rfl,hle,rfl,hk⟩:=h;have hob:=hr.heap.obj id _ ho;obtain ⟨_,Ot,hcm,HQ,O5⟩:=hob;simp only at HQ Ot;cases hs with
 | ref _ _ _ _ M3 n2 _ E9 hN2 hv h2=>
   rw[Bg ho] at E9;simp only[AO.sg,Option.some.injEq,Sg.arr.injEq] at E9;obtain ⟨rfl,rfl⟩:=E9;obtain ⟨ad,cap,rfl,h5,h6,h7,h8⟩:=h2 rfl;generalize hm:min len ys.length=m at hk;have hml:m≤len:=by omega
   have hmy:m≤ys.length:=by omega
   have htk:ys.take len=ys.take m:=by
     rcases Nat.le_total len ys.length with h9 | h9
     · rw[show m=len by omega]
     · rw[List.take_of_length_le h9,List.take_of_length_le (by omega)]
   rw[htk] at hk;have J7:(es.take off++ys.take m++es.drop (off+m)).length=es.length:=by simp;omega
   have AN:∀j,get (Ae st.hp id (.arr e' i.size (es.take off++ys.take m++es.drop (off+m)))) j=if j=id then some (.arr e' i.size (es.take off++ys.take m++es.drop (off+m))) else get st.hp j:=A9 _ _ _
   have KM:sg (Ae st.hp id (.arr e' i.size (es.take off++ys.take m++es.drop (off+m))))=sg st.hp:=BZ AN ho (by simp only[AO.sg,J7]);have EU:Ba M M (sg st.hp) (sg (Ae st.hp id (.arr e' i.size (es.take off++ys.take m++es.drop (off+m))))):=by rw[KM];exact Ba.refl _ _
   have B4:∀(j:Nat) x,(es.take off++ys.take m++es.drop (off+m))[j]?=some x→x.length=i.size:=fun j x hj=>by
     have Di:=List.mem_of_getElem? hj;rcases List.mem_append.1 Di with h9 | h9
     · rcases List.mem_append.1 h9 with Lx | Lx
       · obtain ⟨q,hq⟩:=List.mem_iff_getElem?.1 (List.mem_of_mem_take Lx);exact HQ q x hq
       · exact NK x (List.mem_of_mem_take Lx)
     · obtain ⟨q,hq⟩:=List.mem_iff_getElem?.1 (List.mem_of_mem_drop h9);exact HQ q x hq
   have p5:∀w1:World,(Builtin.lenOf vx).run P w1= .ok ys.length w1:=Ce.len;have Qf:Nat.min ys.length len=m:=by rw[←hm];exact Nat.min_comm _ _
   have J1:=Ce.pre m hmy w rfl;by_cases SH:m=0
   · subst SH;have Atd:es.take off++ys.take 0++es.drop (off+0)=es:=by simp
     refine ⟨_,_,_,w,M,hk,hr.change (M':=M) AN (fun _ _=>rfl) EU rfl rfl rfl (Nat.le_refl _) (fun b hb _=>rfl) ?_ (fun b hb=> .inl ⟨_,ho,hb⟩),.p (.int .i64 _),?_⟩
     · have Lx:=hr.heap.obj id _ ho;rw[←KM] at Lx;have Yw:(AO.arr e' i.size (es.take off++ys.take 0++es.drop (off+0)))=AO.arr e' i.size es:=by rw[Atd]
       exact Yw ▸ Lx
     · cases ad<;>simp[Builtin.copy_,run_underlying Dr,p5,sizeOf,typeInfo,hi,Qf,J1,storeCells,goInt]
   · have Aos:(M id).cap≠0:=by omega
     obtain rfl:=h8.resolve_left (by omega);obtain ⟨JU,row,Bj,E8,Bd⟩:=O5 Aos;simp only at E8 Bd;have Awq:=Ce.size;have SX:(news.take (m*i.size)).length=m*i.size:=by rw[List.length_take,Awq];exact Nat.min_eq_left (Nat.mul_le_mul_right _ hmy)
     have Aql:off*i.size+m*i.size≤row.size:=by rw[E8,←Nat.add_mul];exact Nat.mul_le_mul_right _ (by omega)
     have LV:∀v∈news.take (m*i.size),v.oneCell'=true:=fun v hv=>by
       obtain ⟨p,hp⟩:=List.mem_iff_getElem?.1 (List.mem_of_mem_take hv);have AL:=(List.getElem?_eq_some_iff.1 hp).1;have hdiv:p / i.size<ys.length:=Nat.div_lt_of_lt_mul (by rw[Nat.mul_comm];omega);have hy:ys[p / i.size]?=some ys[p / i.size]:=List.getElem?_eq_getElem hdiv;have W9:p % i.size<(ys[p / i.size]).length:=by rw[SW _ _ hy];exact Nat.mod_lt _ DT
       have:=(Ce.data _ _ _ _ hy (List.getElem?_eq_getElem W9)).HY;rwa[Nat.mul_comm,Nat.div_add_mod,List.getD_eq_getElem?_getD,hp] at this
     have Jp:=Dg P (M id).BU (off*i.size) e' (news.take (m*i.size)) 0 row w Bj (by rw[SX];omega) LV;simp only[Nat.add_zero,SX] at Jp;have Fu:∀{x v},PR F w x v→PR F (w.setRow (M id).BU (row.toList.take (off*i.size)++news.take (m*i.size)++row.toList.drop (off*i.size+m*i.size)).toArray) x v:=
       fun h=>h.keep (fun b hb=>setRow_other w _ b _ (fun e=>JU (e ▸ hb))) (fun _ h=>h)
     refine ⟨_,_,_,(w.setRow (M id).BU (row.toList.take (off*i.size)++news.take (m*i.size)++row.toList.drop (off*i.size+m*i.size)).toArray),M,hk,
       hr.change (M':=M) (w':=(w.setRow (M id).BU (row.toList.take (off*i.size)++news.take (m*i.size)++row.toList.drop (off*i.size+m*i.size)).toArray)) AN (fun _ _=>rfl) EU rfl rfl rfl (by simp) (fun b hb BC=>setRow_other w _ b _ (fun e=>BC _ ho ⟨Aos,e⟩)) ?_ (fun b hb=> .inl ⟨_,ho,hb⟩),.p (.int .i64 _),?_⟩
     · have TT:(row.toList.take (off*i.size)).length=off*i.size:=by simp;omega
       refine ⟨DT,by omega,hcm,B4,fun _=>⟨JU,_,Bj.set ?_,?_,fun j y p x hy hx=>?_⟩⟩
       · have h13:(row.toList.take (off*i.size)++news.take (m*i.size)++row.toList.drop (off*i.size+m*i.size)).length=row.size:=by
           simp only[List.length_append,TT,SX,List.length_drop,Array.length_toList];omega
         exact h13
       · have h13:(row.toList.take (off*i.size)++news.take (m*i.size)++row.toList.drop (off*i.size+m*i.size)).length=row.size:=by
           simp only[List.length_append,TT,SX,List.length_drop,Array.length_toList];omega
         exact h13.trans E8
       · have hp:p<i.size:=by have:=(List.getElem?_eq_some_iff.1 hx).1;have:=B4 j y hy;omega
         have h20:PR F w x ((row.toList.take (off*i.size)++news.take (m*i.size)++row.toList.drop (off*i.size+m*i.size)).getD (j*i.size+p) undef):=by
           rw[List.getD_eq_getElem?_getD];rcases Nat.lt_or_ge j off with h9 | h9
           · have Lx:j*i.size+p<off*i.size:=Hg h9 (Nat.le_refl _) hp;have VV:es[j]?=some y:=by
               rw[List.getElem?_append_left (by simp;omega),List.getElem?_append_left (by simp;omega),List.getElem?_take,if_pos h9] at hy;exact hy
             rw[List.getElem?_append_left (by rw[List.length_append,TT];omega),List.getElem?_append_left (by rw[TT];exact Lx),List.getElem?_take,if_pos Lx];have:=Bd j y p x VV hx;rwa[Array.getD_eq_getD_getElem?,←Array.getElem?_toList] at this
           · rcases Nat.lt_or_ge j (off+m) with Yw | Yw
             · obtain ⟨q,rfl⟩:∃q,j=off+q:=⟨j - off,by omega⟩;have hq:q<m:=by omega
               have Lx:q*i.size+p<m*i.size:=Hg hq (Nat.le_refl _) hp;have VV:ys[q]?=some y:=by
                 rw[List.getElem?_append_left (by simp;omega),List.getElem?_append_right (by simp;omega),List.getElem?_take] at hy;have e9:off+q - (es.take off).length=q:=by simp;omega
                 rw[e9,if_pos hq] at hy;exact hy
               have e8:(off+q)*i.size+p=off*i.size+(q*i.size+p):=by rw[Nat.add_mul];omega
               rw[e8,List.getElem?_append_left (by rw[List.length_append,TT,SX];omega),List.getElem?_append_right (by rw[TT];omega),TT,Nat.add_sub_cancel_left,List.getElem?_take,if_pos Lx];have:=Ce.data q y p x VV hx;rwa[List.getD_eq_getElem?_getD] at this
             · obtain ⟨q,rfl⟩:∃q,j=off+m+q:=⟨j - (off+m),by omega⟩;have VV:es[off+m+q]?=some y:=by
                 have e9:(es.take off++ys.take m).length=off+m:=by simp;omega
                 rw[List.getElem?_append_right (by rw[e9];omega),e9,Nat.add_sub_cancel_left,List.getElem?_drop] at hy;exact hy
               have e8:(off+m+q)*i.size+p=off*i.size+m*i.size+(q*i.size+p):=by rw[Nat.add_mul,Nat.add_mul];omega
               rw[e8,List.getElem?_append_right (by rw[List.length_append,TT,SX];omega),List.length_append,TT,SX,Nat.add_sub_cancel_left,List.getElem?_drop,←e8];have:=Bd _ y p x VV hx;rwa[Array.getD_eq_getD_getElem?,←Array.getElem?_toList] at this
         have Lx:=Fu h20;rw[Array.getD_eq_getD_getElem?,List.getElem?_toArray];rwa[List.getD_eq_getElem?_getD] at Lx
     · simp[Builtin.copy_,run_underlying Dr,p5,sizeOf,typeInfo,hi,Qf,J1,Jp,goInt]
theorem Aa8 {h:Hp} {x:D} {k:List (List Pd)→Prop} (hh:Kb h x k):∃ys,k ys:=by
 unfold Kb at hh;split at hh
 · exact ⟨_,hh⟩
 · exact ⟨_,hh⟩
 · exact ⟨_,hh⟩
 · split at hh
   · exact ⟨_,hh.2⟩
   · exact ⟨_,hh.2⟩
   · exact hh.elim
 · exact hh.elim
theorem YJ {h h':Hp} {x:D} {k k':List (List Pd)→Prop} (hg:∀j o,get h j=some o→(∃t sz es,o= .arr t sz es)∨(∃sz es,o= .J3 sz es)→get h' j=some o) (hk:∀ys,k ys→k' ys) (hh:Kb h x k):Kb h' x k':=by
 unfold Kb at hh ⊢;split at hh
 · exact hk _ hh
 · exact hk _ hh
 · exact hk _ hh
 · split at hh
   · rename_i h1;rw[hg _ _ h1 (.inl ⟨_,_,_,rfl⟩)];exact ⟨hh.1,hk _ hh.2⟩
   · rename_i h1;rw[hg _ _ h1 (.inr ⟨_,_,rfl⟩)];exact ⟨hh.1,hk _ hh.2⟩
   · exact hh.elim
 · exact hh.elim
theorem ZZ (hr:Rel c st a w F M) {q t t2 ty:TypeId} {s x:D} {vs vx:Value} (hs:DR F w M (sg st.hp) s vs) (hx:DR F w M (sg st.hp) x vx) {k:D→Hp→Prop}
   (h:X7 P st.hp q t t2 s x k):∃d h' v w' M',k d h'∧Rel c {st with hp:=h'} a w' F M'∧DR F w' M' (sg h') d v∧(Builtin.append_ #[t,t2] ty #[vs,vx]).run P w= .ok v w':=by
 by_cases hnr:∀id i len kk,s≠ .nr id i len kk
 · exact P5 hr hs hx hnr h
 · have:∃id i len kk,s= .nr id i len kk:=by
     cases s with
     | nr id i len kk=>exact ⟨id,i,len,kk,rfl⟩
     | _=>exact (hnr (fun _ _ _ _=>by simp)).elim
   obtain ⟨id,i,len,kk,rfl⟩:=this;have Ahl:∃t3 e' sz k2 rows,get st.hp id=some (.BP t3 e' sz k2 rows none)∧kk=k2∧len=(rows.getD i []).length∧i<rows.length∧get st.hp q=none:=by
     have h0:=h;unfold X7 at h0;split at h0
     case h_2=>exact h0.elim
     obtain ⟨_,h0⟩:=h0;split at h0
     case h_2=>exact h0.elim
     obtain ⟨ys,_,_,_,h1⟩:=Aa8 h0;simp only at h1;split at h1
     · rename_i t3 e' sz k2 rows hg;exact ⟨t3,e',sz,k2,rows,hg,h1.1.2.2⟩
     · exact h1.elim
   obtain ⟨t3,e',sz,k2,rows,hg,rfl,rfl,hi,hq⟩:=Ahl;have hir:rows[i]?=some (rows.getD i []):=by simp[List.getD,hi]
   obtain ⟨bc,Yv,EU,D6⟩:=hr.Aw4 hg hir hq;generalize hM1:(fun j=>if j=q then (⟨bc.1,bc.2,[]⟩:Mb) else if j=id then {(M id) with xs:=(M id).xs.set i (0,0)} else M j)=M1 at EU D6;have W5:q≠id:=fun e=>by rw[e,hg] at hq;cases hq
   have SY:sg ((q,AO.arr e' sz (rows.getD i []))::Ae st.hp id (.BP t3 e' sz (kk+1) rows (some i))) q=some (.arr sz (rows.getD i []).length):=by simp[sg,AI,AO.sg]
   have JT:DR F w M1 (sg ((q,AO.arr e' sz (rows.getD i []))::Ae st.hp id (.BP t3 e' sz (kk+1) rows (some i)))) (.ref q 0 (rows.getD i []).length (rows.getD i []).length) vs:=by
     cases hs with
     | nr _ _ _ _ M3 m k3 _ KN hN hv hl=>
       have Ym:=Bg hg;rw[KN] at Ym;simp only[AO.sg,Option.some.injEq,Sg.BP.injEq] at Ym;obtain ⟨_,_,rfl⟩:=Ym;obtain ⟨bc2,g1,g2,ad,g3,g4⟩:=hl rfl;rw[Yv] at g1;cases g1;refine .ref q 0 _ _ sz _ vs SY (Nat.le_refl _) ⟨_,_,_,g3⟩ (fun _=>⟨ad,bc.2,g3,by omega,g2,by rw[←hM1];simp,?_⟩);rw[←hM1]
       simpa using g4
   have Gz:=hx.keep (w':=w) (fun _ _=>rfl) (fun _ h=>h) EU;have IJ:get ((q,AO.arr e' sz (rows.getD i []))::Ae st.hp id (.BP t3 e' sz (kk+1) rows (some i))) q=some (.arr e' sz (rows.getD i [])):=by simp[AI]
   have At3:∀es,Ae ((q,AO.arr e' sz (rows.getD i []))::Ae st.hp id (.BP t3 e' sz (kk+1) rows (some i))) q (.arr e' sz es)=(q,.arr e' sz es)::Ae st.hp id (.BP t3 e' sz (kk+1) rows (some i)):=fun es=>by simp[Ae]
   refine P5 (s:= .ref q 0 (rows.getD i []).length (rows.getD i []).length) (q:=q) D6 JT Gz (fun _ _ _ _=>by simp) ?_;unfold X7 at h ⊢;split at h
   case h_2=>exact h.elim
   rename_i ht1 ht2;try simp only[ht1,ht2]
   obtain ⟨HL,h⟩:=h;refine ⟨HL,?_⟩;split at h
   case h_2=>exact h.elim
   refine YJ (fun j o hj ho=>?_) (fun ys NK=>?_) h
   · have h1:j≠q:=fun e=>by rw[e,hq] at hj;cases hj
     have h2:j≠id:=fun e=>by
       rw[e,hg] at hj;cases hj;rcases ho with ⟨_,_,_,h3⟩ | ⟨_,_,h3⟩<;>cases h3
     rw[AI,if_neg (Ne.symm h1),A9,if_neg h2];exact hj
   · obtain ⟨y1,y2,y3,NK⟩:=NK;simp only at NK;rw[hg] at NK;obtain ⟨⟨y4,y5,_⟩,y6,y7,y8⟩:=NK;refine ⟨y1,y2,y3,?_⟩;simp only[IJ];subst y4;refine ⟨trivial,trivial,trivial,rfl,y5,y6,y7,?_⟩;rw[At3];exact y8
end
end Go.Am
namespace Go.Am
open Go
section
variable {P:Program} {c:Ctx} {st:St} {a:Act} {w:World} {F:Nat→Prop} {M:Nat→Mb}
theorem Ag6 {d:D} {k:Pd→Hp→Prop} (h:Iw [] d k):∃x,k x []∧∀(F:Nat→Prop) (w:World) (M:Nat→Mb) (s:Nat→Option Sg) v,DR F w M s d v→PR F w x v:=by
 cases d with
 | p x=>exact ⟨x,h,fun F w M s v hd=>by cases hd with | p hx=>exact hx⟩
 | cl es=>exact ⟨_,h,fun F w M s v hd=>by cases hd with | cl _ ad hx _=>exact hx⟩
 | cz es=>exact ⟨_,h,fun F w M s v hd=>by cases hd with | cz _ ad hx=>exact hx⟩
 | _=>simp[Iw,get] at h
theorem Tt:∀{ds:List D} {k:List Pd→Hp→Prop},Fp [] ds k→∃xs,k xs []∧xs.length=ds.length∧
   ∀(F:Nat→Prop) (w:World) (M:Nat→Mb) (s:Nat→Option Sg) (vs:List Value),G0 F w M s ds vs→∀(i:Nat) x,xs[i]?=some x→PR F w x (vs.getD i undef)
 | [],k,h=>⟨[],h,rfl,fun _ _ _ _ _ _ i x hx=>by simp at hx⟩
 | d::ds,k,h=>by
   obtain ⟨x,h1,h2⟩:=Ag6 h;obtain ⟨xs,h3,h4,h5⟩:=Tt h1;refine ⟨x::xs,h3,by simp[h4],fun F w M s vs hd i y hy=>?_⟩;cases vs with
   | nil=>have:=hd.1;simp at this
   | cons v vs=>
     cases i with
     | zero=>
       simp only[List.getElem?_cons_zero,Option.some.injEq] at hy;subst hy;have:=hd.2 0 d rfl;exact h2 F w M s _ (by simpa [List.getD] using this)
     | succ i=>
       simp only[List.getElem?_cons_succ] at hy;have:=h5 F w M s vs ⟨by have:=hd.1;simpa using this,fun i e he=>by have:=hd.2 (i+1) e (by simpa using he);simpa [List.getD] using this⟩ i y hy
       simpa [List.getD] using this
def Aut (P:Program) (c:Ctx) (st:St) (a:Act) (w:World) (F:Nat→Prop) (o:Oper) (k:D→Hp→Prop):Prop:=
 ∃d h' v w' F' M',k d h'∧Rel c {st with hp:=h'} a w' F' M'∧(∀b,F b→F' b)∧DR F' w' M' (sg h') d v∧
   ((execOp a.eval o).run P w= .ok (.value v) w'∨(v=undef∧(execOp a.eval o).run P w= .ok .skip w'))
theorem Aac (hp:Hp) (id:Nat) (o o':AO):Ae (Ae hp id o) id o'=Ae hp id o':=by
 induction hp with
 | nil=>simp[Ae]
 | cons p r ih=>
   obtain ⟨j,x⟩:=p;by_cases h:j=id
   · subst h;simp[Ae]
   · simp[Ae,h,ih]
theorem Q8 (hr:Rel c st a w F M) {id i n:Nat} {d:D} {vx vd:Value} (hx:DR F w M (sg st.hp) (.J6 id i n) vx) (hd:DR F w M (sg st.hp) d vd) {k:Hp→Prop} (h:Kw st.hp id i n d k):
   ∃h' w' M' ad,k h'∧Rel c {st with hp:=h'} a w' F M'∧vx= .pointer (some ad)∧(storeCells ad vd.cells.toList).run P w= .ok () w':=by
 unfold Kw at h;split at h
 case h_2=>exact h.elim
 rename_i q off len N;split at h
 case h_2=>exact h.elim
 rename_i e2 M3 es t e sz k2 rows hole hq hg;obtain ⟨⟨rfl,rfl,rfl,rfl,rfl,rfl,hh⟩,hk⟩:=h;have W5:q≠id:=fun e=>by rw[e,hg] at hq;cases hq
 cases hx with
 | J6 _ _ _ sz1 m1 k1 b hs hN hi hb=>
   rw[Bg hg] at hs;simp only[AO.sg,Option.some.injEq,Sg.BP.injEq] at hs;obtain ⟨rfl,rfl,rfl⟩:=hs;obtain ⟨rfl,Hx⟩:=hb rfl;cases hd with
   | ref _ _ _ _ sz3 n3 _ KN hN2 Qu RE=>
     rw[Bg hq] at KN;simp only[AO.sg,Option.some.injEq,Sg.arr.injEq] at KN;obtain ⟨rfl,rfl⟩:=KN;obtain ⟨ad,cp,rfl,_,Ot,hoc,hor⟩:=RE rfl;rw[Nat.zero_add] at hoc;subst hoc;have Bd:(Value.slice ad es.length (M q).cap).cells.toList=[Value.slice ad es.length (M q).cap]:=rfl;rw[Bd];have fin:∀{hp1:Hp} {M1:Nat→Mb} {k1:Nat},Rel c {st with hp:=hp1} a w F M1→get hp1 id=some (.BP t e2 M3 k1 rows (some i))→get hp1 q=some (.arr e2 M3 es)→M1 q=M q→(M1 id).BU=(M id).BU→
         ∃w' M',Rel c {st with hp:=Ae (Ae hp1 id (.BP t e2 M3 (k1+1) (rows.set i es) none)) q (.Df (GM (.arr M3 (es.length+1))))} a w' F M'∧(storeCells ⟨(M id).BU,i,none⟩ [Value.slice ad es.length (M q).cap]).run P w= .ok () w':=by
       intro hp1 M1 k1 D6 O4 Yq HM Ih;obtain ⟨w',h1,h2,row,h3,h4,h5⟩:=D6.Afk (P:=P) O4 hi (Value.slice ad es.length (M q).cap) rfl;have h6:=h2.fill O4 hi Yq ⟨row,h3,ad,by rw[HM];exact h5,by rw[HM];simpa using hor⟩;rw[Ih] at h1;exact ⟨w',_,h6,h1⟩
     rcases hh with rfl | rfl
     · have D6:=hr.drop hg hi;obtain ⟨w',M',h1,h2⟩:=fin D6 (by rw[A9,if_pos rfl]) (by rw[A9,if_neg W5];exact hq) (by simp[W5]) (by simp);rw[Aac] at h1;exact ⟨_,w',M',_,hk,h1,rfl,h2⟩
     · obtain ⟨w',M',h1,h2⟩:=fin hr hg hq rfl rfl;exact ⟨_,w',M',_,hk,h1,rfl,h2⟩
theorem UI (hr:Rel c st a w F M) {t:TypeId} {x d:D} {vx vd:Value} (hx:DR F w M (sg st.hp) x vx) (hd:DR F w M (sg st.hp) d vd) {k:Hp→Prop} (h:QM P st.hp t x d k):
   ∃h' w' F' M',k h'∧Rel c {st with hp:=h'} a w' F' M'∧(∀b,F b→F' b)∧(Instr.storeAt t vx vd).run P w= .ok () w':=by
 unfold QM at h;split at h
 case h_2=>exact h.elim
 rename_i ti ht;obtain ⟨i,u,z,hi,hu,hz,rfl⟩:=Az ht;split at h
 case h_2=>exact h.elim
 rename_i cs Jp;obtain ⟨Zz,h1,VX⟩:=I3 hd Jp;obtain ⟨hlen,h⟩:=h;simp only at hlen;have hvs:vd.cells.size=i.size:=by have:=VX.1;simp at this;omega
 have run:∀{ad w'},vx= .pointer (some ad)→(storeCells ad vd.cells.toList).run P w= .ok () w'→(Instr.storeAt t vx vd).run P w= .ok () w':=by
   rintro ad w' rfl h3;simp[Instr.storeAt,Instr.sureAddr,storeVar,BE hi,hvs,h3]
 split at h
 · rename_i id off;split at h
   case h_2=>exact h.elim
   rename_i bs ho;obtain ⟨hle,hk⟩:=h;cases hx with
   | ptr _ _ hs=>
     obtain ⟨w',h3,h4⟩:=hr.Wn (P:=P) ho VX h1 hle;exact ⟨_,w',F,M,hk,h4,fun _ h=>h,run rfl h3⟩
 · rename_i id j q N;obtain ⟨xs,h',F',hk',IZ,hF',hs',hl',Fk⟩:=Kp cs vd.cells.toList hr VX h;split at hk'
   case h_2=>exact hk'.elim
   rename_i e sz es ho;obtain ⟨hN,hq,hk⟩:=hk';cases hx with
   | ea _ _ _ _ M3 n2 _ hs hN2 hv h2=>
     have Lv:=Bg ho;rw[hs',hs] at Lv;simp only[AO.sg,Option.some.injEq,Sg.arr.injEq] at Lv;obtain ⟨rfl,rfl⟩:=Lv;obtain ⟨rfl,AL⟩:=h2 hN;obtain ⟨w',h3,h4⟩:=IZ.Afl (P:=P) ho AL hl' Fk hq;exact ⟨_,w',F',M,hk,h4,hF',run rfl h3⟩
 · obtain ⟨h',w',M',ad,hk,IZ,rfl,h3⟩:=Q8 (P:=P) hr hx hd h;exact ⟨h',w',F,M',hk,IZ,fun _ h=>h,run rfl h3⟩
 · exact h.elim
theorem Aca (hr:Rel c st a w F M) (place:Nat→Option (Nat×Nat)) {parts:List (Nat×Operand)} {n:Nat} {vs:Array Value} (hn:vs.size=n) {cs:List D}
   (h:Ee place (List.replicate n .bad) (parts.map fun q=>(q.1,ev st q.2))=some cs):
   ∃vs',Instr.fill place vs (parts.map fun q=>(q.1,a.eval q.2))=some vs'∧G0 F w M (sg st.hp) cs vs'.toList:=
 MI hr place parts _ vs cs ⟨by simp[hn],fun i d hd=>by
   rw[List.getElem?_replicate] at hd;split at hd
   · cases hd;exact .bad _
   · cases hd⟩ h
theorem Apo (t:TypeId) (cs:List D):Ni (npT t cs) t=t:=by
 unfold Ni npT;split<;>split<;>simp_all
theorem Qq {v:Value} (h:GS v= .cl []):v= .slice none 0 0:=by
 unfold GS at h;split at h<;>first | rfl | cases h
theorem WE:∀(l:List Value) (j:Nat),(LP l)[j]?=(l[j]?).map GS
 | [],j=>by simp[LP]
 | v::r,0=>by simp[LP]
 | v::r,j+1=>by simp[LP,WE r j]
theorem Aeb (z:Value) {j:Nat} (h:(GS z).cells[j]?=some (.cl [])):z.cells.getD j undef= .slice none 0 0:=by
 have one:∀v:Value,[GS v][j]?=some (.cl [])→(#[v]:Array Value).getD j undef= .slice none 0 0:=by
   intro v hv;cases j with
   | zero=>simp only[List.getElem?_cons_zero,Option.some.injEq] at hv;rw[Qq hv];rfl
   | succ j=>simp at hv
 cases z with
 | agg cs=>
   simp only[GS,D.cells] at h;rw[WE] at h;cases hc:cs.toList[j]? with
   | none=>rw[hc] at h;cases h
   | some v=>
     rw[hc] at h;simp only[Option.map_some,Option.some.injEq] at h;rw[Qq h] at hc;simp only[Value.cells];rw[Array.getElem?_toList] at hc;rw[Array.getD_eq_getD_getElem?,hc];rfl
 | slice a l c=>
   refine one _ ?_;have:(GS (.slice a l c)).cells=[GS (.slice a l c)]:=by
     unfold GS;split<;>first | rfl | (rename_i h0;cases h0)
   rwa[this] at h
 | pointer a=>
   refine one _ ?_;cases a<;>exact h
 | _=>exact one _ h
theorem UN {kk:KK} {key:Pd} (hf:kk.fit key=true):Instr.sameBits 10000 key.val key.val=true:=by
 cases kk<;>cases key<;>simp[KK.fit] at hf<;>simp[Instr.sameBits,Pd.val,MapKept.bytes_beq]
theorem Rel.Apq (hr:Rel c st a w F M) {q:Nat} (hn:get st.hp q=none):
   Rel c {st with hp:=(q,.mp [])::st.hp} a (w.alloc (.map #[] 0)) F (Du M q ⟨w.heap.size,0,[]⟩)∧
   DR F (w.alloc (.map #[] 0)) (Du M q ⟨w.heap.size,0,[]⟩) (sg ((q,.mp [])::st.hp)) (.mv q) (.map (some w.heap.size)):=by
 have AN:=Jv st.hp q (.mp []);have hM:∀j,j≠q→Du M q ⟨w.heap.size,0,[]⟩ j=M j:=fun j hj=>by simp[Du,hj]
 have HM:Du M q ⟨w.heap.size,0,[]⟩ q=⟨w.heap.size,0,[]⟩:=by simp[Du]
 have EU:=Em AN hM hn;have hold:∀b,b<w.heap.size→(w.alloc (.map #[] 0)).heap[b]?=w.heap[b]?:=fun b hb=>alloc_old w _ b hb;refine ⟨hr.change AN hM EU rfl rfl rfl (by simp) (fun b hb _=>hold b hb) ?_ (fun b hb=> .inr (by have:b=_:=hb;rw[this,HM];exact Nat.le_refl _)),?_⟩
 · rw[HM];refine ⟨fun hF=>Nat.lt_irrefl _ (hr.keep.Fl _ hF),⟨#[],0,heap_alloc_new w _,rfl⟩,by simp⟩
 · have:=DR.mv (F:=F) (w:=w.alloc (.map #[] 0)) (M:=Du M q ⟨w.heap.size,0,[]⟩) (s:=sg ((q,.mp [])::st.hp)) q (by rw[Bv AN];simp[AO.sg]);rwa[HM] at this
theorem U4 (hr:Rel c st a w F M) {t:TypeId} {m i x:D} {k:Hp→Prop} (h:Rf P st.hp t m i x k) {vm vi vx:Value} (hm:DR F w M (sg st.hp) m vm) (hi:DR F w M (sg st.hp) i vi) (hx:DR F w M (sg st.hp) x vx):
   ∃h' w',k h'∧Rel c {st with hp:=h'} a w' F M∧(Instr.mapUpdate t vm vi vx).run P w= .ok () w':=by
 unfold Rf at h;split at h
 case h_2=>exact h.elim
 rename_i _ _ _ _ kk z id key y hmo;obtain ⟨kt,e,d,ii,zv,hu,hk,hd,C0,hz,rfl,hzf⟩:=Jh hmo;split at h
 case h_2=>exact h.elim
 rename_i l hg;obtain ⟨⟨hf,LX,hyf⟩,hkk⟩:=h;obtain ⟨JU,⟨es,clock,hb,HQ⟩,M6⟩:=hr.heap.obj id _ hg;have AN:∀j,get (Ae st.hp id (.mp (IB key y l))) j=if j=id then some (.mp (IB key y l)) else get st.hp j:=A9 _ _ _
 have E9:=BZ AN hg rfl;cases hm with
 | mv _ hs=>
   cases hi with
   | p hi=>
     have hvi:vi=key.val:=by cases hi<;>first | rfl | (cases kk<;>simp[KK.fit] at hf)
     subst hvi;cases hx with
     | p hx=>
       have Lu:vx=y.val:=by cases hx<;>first | rfl | simp[Pd.flat] at hyf
       subst Lu;have hc:∀b,(Instr.checkKey b 10000 kt key.val).run P w= .ok () w:=fun b=>MapKept.run_checkKey hk (OT hd hf) b 9999;have hch:∀(LY:Array MapEntry) (VD:Nat),LY.toList.map (fun e=>(e.key,e.val))=(IB key y l).map (fun p=>(p.1.val,p.2.val))→(∀p∈IB key y l,p.2.flat=true)→
           Rel c {st with hp:=Ae st.hp id (.mp (IB key y l))} a {w with heap:=w.heap.setIfInBounds (M id).BU (.map LY VD)} F M:=by
         intro LY VD h1 h2;have Da:=MapKept.heap_set (o':= .map LY VD) hb;refine hr.change (M':=M) AN (fun _ _=>rfl) (by rw[E9];exact Ba.refl _ _) rfl rfl rfl (by simp) (fun b SI BC=>Da.2 b (BC _ hg)) ⟨JU,⟨LY,VD,Da.1,h1⟩,h2⟩ (fun b SI=> .inl ⟨_,hg,SI⟩)
       have Amn:∀p∈IB key y l,p.2.flat=true:=by
         clear hch AN E9 hkk HQ hg LX
         induction l with
         | nil=>intro p hp;simp[IB] at hp;subst hp;exact hyf
         | cons q r ih=>
           intro p hp;simp only[IB] at hp;split at hp
           · rcases List.mem_cons.1 hp with rfl | hp
             · exact hyf
             · exact M6 p (by simp[hp])
           · rcases List.mem_cons.1 hp with rfl | hp
             · exact M6 _ (by simp)
             · exact ih (fun p hp=>M6 p (by simp[hp])) p hp
       rcases Kz hd hf es.toList l 0 HQ LX with ⟨v,j,g1,g2,g3,⟨e0,g4,g5⟩,g6⟩ | ⟨g1,g2,g3⟩
       · refine ⟨_,_,hkk,hch (es.modify j fun e=>{e with key:=key.val,val:=y.val}) clock (by rw[Array.toList_modify];exact g6 y) Amn,?_⟩;have h4:es[j]?=some e0:=by simpa using g4
         simp[Instr.mapUpdate,run_underlying hu,MapKept.run_getObj_map hb,hc,MapKept.run_findKey hk g2,Result.andThen,h4,g5,Instr.keyThatStays,UN hf,MapKept.run_setObj_map _ hb]
       · refine ⟨_,_,hkk,hch (es.push {key:=key.val,val:=y.val,born:=clock}) (clock+1) (by simp[g3 y,HQ]) Amn,?_⟩;simp[Instr.mapUpdate,run_underlying hu,MapKept.run_getObj_map hb,hc,MapKept.run_findKey hk g2,Result.andThen,MapKept.run_setObj_map _ hb]
theorem DQ (hr:Rel c st a w F M) {o:Oper} {q:Nat} {k:D→Hp→Prop} (h:mOp P st q o.op k):Aut P c st a w F o k:=by
 unfold mOp at h;split at h
 ·
   rename_i t ho;split at h
   case h_2=>exact h.elim
   rename_i ti ht;obtain ⟨i,u,z,hi,hu,hz,rfl⟩:=Az ht;split at h
   case h_2=>exact h.elim
   rename_i cs Jp;obtain ⟨Zz,h1,VX⟩:=I3 (Iy F w M (sg st.hp) z) Jp;obtain ⟨hn,hk⟩:=h;obtain ⟨h2,h3⟩:=hr.Agc t (npT t cs) (Apo t cs) hn VX h1 (fun _ _ j hj=>Aeb z (Zz ▸ hj));refine ⟨_,_,_,_,F,_,hk,h2,fun _ h=>h,h3,.inl ?_⟩;simp[execOp,ho,Instr.alloc,Hf hi hz,newVar,newRow]
 ·
   rename_i t x ho;split at h
   case h_2=>exact h.elim
   rename_i cs Jp;obtain ⟨Zz,h1,VX⟩:=I3 (AF hr x) Jp;obtain ⟨hn,hk⟩:=h;obtain ⟨h2,h3⟩:=hr.Agc t 0 rfl hn VX h1 (Exa.zero _ _);refine ⟨_,_,_,_,F,_,hk,h2,fun _ h=>h,h3,.inl ?_⟩;simp[execOp,ho,Instr.box,newVar,newRow]
 ·
   rename_i t x y ho;obtain ⟨h',w',F',M',hk,h2,hF,h3⟩:=UI hr (AF hr x) (AF hr y) h;refine ⟨_,h',undef,w',F',M',hk,h2,hF,.BA [] #[] rfl (fun i d hd=>by simp at hd),.inr ⟨rfl,?_⟩⟩;simp[execOp,ho,h3]
 ·
   rename_i t ho;obtain ⟨hn,hk⟩:=h;obtain ⟨h2,h3⟩:=hr.Apq hn;refine ⟨_,_,_,_,F,_,hk,h2,fun _ h=>h,h3,.inl ?_⟩;simp[execOp,ho,Instr.makeMap]
 ·
   rename_i t m i x ho;obtain ⟨h',w',hk,h2,h3⟩:=U4 hr h (AF hr m) (AF hr i) (AF hr x);refine ⟨_,h',undef,w',F,M,hk,h2,fun _ h=>h,.BA [] #[] rfl (fun i d hd=>by simp at hd),.inr ⟨rfl,?_⟩⟩;simp[execOp,ho,h3]
 ·
   rename_i t n parts ho;split at h
   case h_2=>exact h.elim
   rename_i _ _ e z0 ht;obtain ⟨i1,u1,z1,HP,Dr,hz1,e1⟩:=Az ht;simp only[TI.mk.injEq] at e1;obtain rfl:=TK.of_slice e1.2.2.1.symm;split at h
   case h_2=>exact h.elim
   rename_i ti hte;obtain ⟨i,u,z,hi,hu,hz,rfl⟩:=Az hte;obtain ⟨DT,RC,h⟩:=h;simp only at DT RC h;split at h
   case h_2=>exact h.elim
   rename_i cs hf;obtain ⟨vs',Zy,VX⟩:=Aca hr _ (vs:=(Array.range (n*i.size)).map ((if n*i.size=0 then #[] else z.cells)[· % (if n*i.size=0 then #[] else z.cells).size]!)) (by simp) hf;obtain ⟨xs,h',F',⟨hn,hk⟩,IZ,hF',hs',hl',Fk⟩:=Kp cs vs'.toList hr VX h;have M6:cs.length=n*i.size:=by
     have:∀(ps:List (Nat×D)) (c0 c1:List D),Ee (fun j=>some (j*i.size,i.size)) c0 ps=some c1→c1.length=c0.length:=by
       intro ps
       induction ps with
       | nil=>intro c0 c1 h;simp[Ee] at h;rw[h]
       | cons p ps ih=>
         intro c0 c1 h;obtain ⟨j,d⟩:=p;simp only[Ee] at h;split at h
         · rename_i hc;rw[ih _ _ h];simp;omega
         · cases h
     have:=this _ _ _ hf
     simpa using this
   have SX:vs'.size=n*i.size:=by have:=VX.1;simp at this;omega
   have W0:xs.length=n*i.size:=by simp at hl';omega
   obtain ⟨h2,h3⟩:=IZ.UW (q:=q) (cap:=n) (sz:=i.size) (es:=chunk i.size n xs) (e:=e) (vs:=vs') (w':=w.alloc (.cells vs' e)) hn rfl rfl rfl rfl DT (by rw[GZ];exact Nat.le_refl _)
     (by unfold maxLen;have:n≤n*i.size:=Nat.le_mul_of_pos_right _ DT;omega) (fun j x hj=>by
       rw[LF] at hj;split at hj
       · rename_i AL;cases hj;have:=Hg (j:=i.size - 1) AL (Nat.le_refl _) (show i.size - 1<i.size by omega);simp;omega
       · cases hj) SX (fun j x p y hj hp=>by
       rw[LF] at hj;split at hj
       · cases hj;rw[List.getElem?_take] at hp;split at hp
         · rw[List.getElem?_drop] at hp;have:=Fk _ y hp;rwa[List.getD_eq_getElem?_getD,Array.getElem?_toList,←Array.getD_eq_getD_getElem?] at this
         · cases hp
       · cases hj)
   rw[GZ] at h3;refine ⟨_,_,_,_,F',_,hk,h2,hF',h3,.inl ?_⟩;have hpm:(parts.map fun (i,x)=>(i,a.eval x)).toList=parts.toList.map fun q=>(q.1,a.eval q.2):=by simp
   have J7:¬(16777216<n*i.size):=by omega
   simp only[execOp,ho,Instr.buildSlice,Sem.run_bind,run_underlying Dr,Result.andThen_ok,BE hi];by_cases h0:n*i.size=0
   · have e0:∀g:Nat→Value,(Array.range 0).map g=#[]:=fun g=>by simp[Array.range_zero']
     simp only[h0,if_true,e0] at Zy ⊢;simp[hpm,Zy,newRow,e0]
   · simp only[h0,if_false] at Zy ⊢;simp[J7,Hf hi hz,hpm,Zy,newRow]
 ·
   rename_i t l m ho;split at h
   case h_2=>exact h.elim
   rename_i _ _ e z0 k1 l' k2 m' ht hl hm;obtain ⟨i1,u1,z1,HP,Dr,hz1,e1⟩:=Az ht;simp only[TI.mk.injEq] at e1;obtain rfl:=TK.of_slice e1.2.2.1.symm;split at h
   case h_2=>exact h.elim
   rename_i ti hte;obtain ⟨i,u,z,hi,hu,hz,rfl⟩:=Az hte;obtain ⟨DT,hn,⟨h0,hlm,r4,hle⟩,hzl,h⟩:=h;simp only at DT r4 hzl;obtain ⟨zs,hk,hzs,hzd⟩:=Tt h;have hl':=AF hr l;have hm':=AF hr m;rw[hl] at hl';rw[hm] at hm';generalize SX:a.eval l=vl at hl';generalize hvm:a.eval m=vm at hm';cases hl' with | p hl'=>cases hl';cases hm' with | p hm'=>
     cases hm';have BW:=run_make (P:=P) w t e i z Dr hi hz k1 k2 l' m' h0 hlm (by rw[Int.mul_comm];omega) (by omega);rw[FG] at hzl;have hz0:G0 F w M (sg st.hp) (GS z).cells z.cells.toList:=by
       have:(GS z).cells.all D.one=true∨∃cs,GS z= .agg cs:=by
         cases hzz:GS z with
         | agg cs=>exact .inr ⟨cs,rfl⟩
         | BA cs=>rw[hzz] at h;simp[D.cells,Fp,Iw] at h
         | bad=>rw[hzz] at h;simp[D.cells,Fp,Iw] at h
         | _=>left;simp[D.cells,D.one]
       exact (Iy F w M (sg st.hp) z).cells this
     have Awe:=hzd F w M (sg st.hp) _ hz0;have Awd:zs.length=i.size:=by rw[hzs,FG];exact hzl
     obtain ⟨h2,h3⟩:=hr.UW (q:=q) (cap:=m'.toNat) (sz:=i.size) (es:=List.replicate l'.toNat zs) (e:=e) (vs:=madeCells z.cells (m'.toNat*i.size))
       (w':=w.alloc (.cells (madeCells z.cells (m'.toNat*i.size)) e)) hn rfl rfl rfl rfl DT (by simp;omega) (by unfold maxLen;omega)
       (fun j x hj=>by rw[List.getElem?_replicate] at hj;split at hj<;>cases hj;exact Awd) (size_madeCells _ _) (fun j x p y hj hp=>by
         rw[List.getElem?_replicate] at hj;split at hj
         · rename_i AL;cases hj;have h5:=Awe p y hp;have h6:=(List.getElem?_eq_some_iff.1 hp).1;have h7:=Hg (j:=p) (sz:=i.size) (show j<m'.toNat by omega) (Nat.le_refl _) (by omega);have h8:(j*i.size+p) % z.cells.size=p:=by rw[hzl,Nat.mul_comm,Nat.mul_add_mod];exact Nat.mod_eq_of_lt (by omega)
           have h9:(madeCells z.cells (m'.toNat*i.size)).getD (j*i.size+p) undef=z.cells[(j*i.size+p) % z.cells.size]!:=by
             simp[madeCells,Array.getD_eq_getD_getElem?,h7]
           rw[h9,h8];have Lx:p<z.cells.size:=by omega
           rw[List.getD_eq_getElem?_getD,Array.getElem?_toList,Array.getElem?_eq_getElem Lx] at h5;rw[getElem!_pos z.cells p Lx];exact h5
         · cases hj)
     rw[List.length_replicate] at h3;refine ⟨_,_,_,_,F,_,hk,h2,fun _ h=>h,h3,.inl ?_⟩;simp only[execOp,ho,SX,hvm,Sem.run_bind,BW,Result.andThen_ok,Sem.run_pure]
 · exact h.elim
end
end Go.Am
end
