/- Texts of this proof, what it rests on, merged: part B. -/
import Derived.LoopN
import Derived.Scope
import Derived.Deep.Quiet
import Derived.Test.YtjbklifaekjilaaGreatDoorExA
section
set_option linter.unusedVariables false
set_option linter.unusedSimpArgs false
namespace Go.Am
open Go
def bor(h:Hp)(d:D)(k:D->Hp->Prop):Prop:=
 match d with
 | .ref id off len N=>match get h id with
   | some (.arr _ _ es)=>N=es.length/\k (.p (.sl ((es.drop off).take len))) (froze h id)
   | some (.M3 _ es)=>N=es.length/\k (.p (.sl ((es.drop off).take len))) h
   | _=>False
 | .Dt id n=>match get h id with
   | some (.Dp _ _ sz kk rows none)=>n=rows.length/\k (.p (.sl (rows.map λ r=>[.sl r]))) (Cy h id (.Fi (IU (.Dp sz rows.length kk))))
   | _=>False
 | .cl es=>k (.p (.sl es)) h
 | d=>k d h
mutual
def Fh (h:Hp) (d:D) (k:D->Hp->Prop):Prop:=
  match d with
  | .agg cs=>Qv h cs λ ds h'=>k (.agg ds) h'
  | .Dr cs=>Qv h cs λ ds h'=>k (.Dr ds) h'
  | d=>bor h d k
def Qv:Hp->List D->(List D->Hp->Prop)->Prop
  | h,[],k=>k [] h
  | h,d::r,k=>Fh h d λ x h'=>Qv h' r λ xs h''=>k (x::xs) h''
end
def Akk(P:Program)(h:Hp)(t:TypeId)(x:D)(k:D->Prop):Prop:=
 match CG P t with
 | some ti=>match ti.k,x with
   | .string,.p (.str l)=>k (.p (.int .i64 l.length))
   | .slice _,.p (.sl es)=>k (.p (.int .i64 es.length))
   | .slice _,.cl es=>k (.p (.int .i64 es.length))
   | .slice _,.ref id _ len N=>(match sg h id with | some (.arr _ m)=>N=m | _=>False)/\k (.p (.int .i64 len))
   | .slice _,.Dt _ n=>k (.p (.int .i64 n))
   | .slice _,.nr _ _ len _=>k (.p (.int .i64 len))
   | .array n _,_=>k (.p (.int .i64 n))
   | _,_=>False
 | none=>False
def Ng(P:Program)(st:St)(q:Nat)(b:Builtin)(ts:Array TypeId)(args:List D)(k:D->Hp->Prop):Prop:=
 match b,args with
 | .len,[x]=>match ts[0]? with
   | some t=>Akk P st.hp t x λ d=>k d st.hp
   | none=>False
 | .append,[s,x]=>match ts[0]?,ts[1]? with
   | some t,some t2=>l8 P st.hp q t t2 s x k
   | _,_=>False
 | .copy,[s,x]=>match ts[0]?,ts[1]? with
   | some t,some _=>j3 P st.hp t s x k
   | _,_=>False
 | .min,[.p (.int k1 x),.p (.int k2 y)]=>k1=k2/\k (.p (.int k1 (if y<x then y else x))) st.hp
 | .max,[.p (.int k1 x),.p (.int k2 y)]=>k1=k2/\k (.p (.int k1 (if x<y then y else x))) st.hp
 | _,_=>False
inductive Rs (α:Type) where
 | fail
 | ret (p:Prop) (a:α)
 | split (b:Bool) (x y:Rs α)
def Rs.all{α:Type}:Rs α->(α->Prop)->Prop
 | .fail,_=>False
 | .ret p a,k=>p/\k a
 | .split b x y,k=>WT b (x.all k) (y.all k)
def Rs.and{α:Type}(p:Prop):Rs α->Rs α
 | .fail=> .fail
 | .ret q a=> .ret (p/\q) a
 | .split b x y=> .split b (x.and p) (y.and p)
def Rs.bind{α β:Type}:Rs α->(α->Rs β)->Rs β
 | .fail,_=> .fail
 | .ret p a,f=>(f a).and p
 | .split b x y,f=> .split b (x.bind f) (y.bind f)
theorem WT.mono{b:Bool}{x y x' y':Prop}(h:WT b x y)(hx:x->x')(hy:y->y'):WT b x' y':=⟨λ e=>hx (h.1 e),λ e=>hy (h.2 e)⟩
def Rs.JO{α:Type}(S:Prop):Rs α->(α->Prop)->Prop
 | .fail,_=>S
 | .ret p a,k=>p/\k a
 | .split b x y,k=>WT b (x.JO S k) (y.JO S k)
theorem Rs.Gl{α:Type}{S:Prop}{k:α->Prop}:∀{r:Rs α},r.JO S k->r.all k∨S
 | .fail,h=> .inr h
 | .ret p a,h=> .inl h
 | .split b x y,h=>by
   cases b
   . rcases Rs.Gl (h.2 rfl) with h1 | h1
     . exact .inl ⟨λ e=>(AJ e).elim,λ _=>h1⟩
     . exact .inr h1
   . rcases Rs.Gl (h.1 rfl) with h1 | h1
     . exact .inl ⟨λ _=>h1,λ e=>(AJ e.symm).elim⟩
     . exact .inr h1
theorem Rs.Es{α:Type}{p:Prop}{k:α->Prop}:∀{r:Rs α},(r.and p).all k->p/\r.all k
 | .fail,h=>h.elim
 | .ret q a,h=>⟨h.1.1,h.1.2,h.2⟩
 | .split b x y,h=>by
   have h1:b=true->p/\x.all k:=λ e=>Rs.Es (h.1 e);have h2:b=false->p/\y.all k:=λ e=>Rs.Es (h.2 e);refine ⟨?_,λ e=>(h1 e).2,λ e=>(h2 e).2⟩;cases b
   . exact (h2 rfl).1
   . exact (h1 rfl).1
theorem Rs.Cg{α:Type}{k k':α->Prop}(hk:∀a,k a->k' a):∀{r:Rs α},r.all k->r.all k'
 | .fail,h=>h.elim
 | .ret q a,h=>⟨h.1,hk _ h.2⟩
 | .split b x y,h=>WT.mono h (Rs.Cg hk) (Rs.Cg hk)
theorem Rs.all_bind{α β:Type}{f:α->Rs β}{k:β->Prop}:∀{r:Rs α},(r.bind f).all k->r.all (λ a=>(f a).all k)
 | .fail,h=>h.elim
 | .ret p a,h=>Rs.Es h
 | .split b x y,h=>WT.mono h Rs.all_bind Rs.all_bind
def VV(ti:TI)(cs:List D)(off:Nat):Rs D:=
 if ti.k.isAgg then .ret (off+ti.size<=cs.length) (.agg ((cs.drop off).take ti.size))
 else match cs[off]? with
   | some d=> .ret True d
   | none=> .fail
theorem Q0{ti:TI}{cs:List D}{off:Nat}{k:D->Prop}(h:(VV ti cs off).all k):Ts ti cs off k:=by
 unfold VV at h;unfold Ts;split at h
 . rename_i e;rw[if_pos e];exact h
 . rename_i e;rw[if_neg e];split at h<;>simp_all [Rs.all]
def Q1(ti:TI)(cs:List Pd)(off:Nat):Rs D:=
 if ti.k.isAgg then .ret (off+ti.size<=cs.length) (.agg (((cs.drop off).take ti.size).map D.p))
 else match cs[off]? with
   | some d=> .ret True (.p d)
   | none=> .fail
theorem OK{ti:TI}{cs:List Pd}{off:Nat}{k:D->Prop}(h:(Q1 ti cs off).all k):RU ti cs off k:=by
 unfold Q1 at h;unfold RU;split at h
 . rename_i e;rw[if_pos e];exact h
 . rename_i e;rw[if_neg e];split at h<;>simp_all [Rs.all]
def MJ(P:Program)(h:Hp)(t:TypeId)(d:D):Rs D:=
 match CG P t,d with
 | some ti,.ptr id off=>match get h id with
   | some (.box cs _)=>VV ti cs off
   | _=> .fail
 | some ti,.pe cs=>Q1 ti cs 0
 | some ti,.ea id i c N=>match get h id with
   | some (.arr _ _ es)=>(Q1 ti (es.getD i []) c).and (N=es.length)
   | some (.M3 _ es)=>(Q1 ti (es.getD i []) c).and (N=es.length)
   | _=> .fail
 | some ti,.MG id i n=>match get h id with
   | some (.Dp _ _ _ kk rows hole)=> .ret (n=rows.length/\hole≠some i/\ti.k.isAgg=false) (.nr id i (rows.getD i []).length kk)
   | _=> .fail
 | _,_=> .fail
theorem V4{P:Program}{h:Hp}{t:TypeId}{d:D}{k:D->Prop}(hh:(MJ P h t d).all k):V5 P h t d k:=by
 unfold MJ at hh;unfold V5;split at hh
 . rename_i h1;simp only[h1];split at hh
   . rename_i h2;simp only[h2];exact Q0 hh
   . exact hh.elim
 . rename_i h1;simp only[h1];exact OK hh
 . rename_i h1;simp only[h1];split at hh
   . rename_i h2;simp only[h2];exact ⟨(Rs.Es hh).1,OK (Rs.Es hh).2⟩
   . rename_i h2;simp only[h2];exact ⟨(Rs.Es hh).1,OK (Rs.Es hh).2⟩
   . exact hh.elim
 . rename_i h1;simp only[h1];split at hh
   . rename_i h2;simp only[h2];exact hh
   . exact hh.elim
 . exact hh.elim
def Arn(op:BinOp)(x y:D):Rs D:=
 match op,x,y with
 | .add,.p (.int k1 a),.p (.int k2 b)=> .ret (k1=k2) (.p (.int k1 (k1.wrap (a+b))))
 | .sub,.p (.int k1 a),.p (.int k2 b)=> .ret (k1=k2) (.p (.int k1 (k1.wrap (a - b))))
 | .mul,.p (.int k1 a),.p (.int k2 b)=> .ret (k1=k2) (.p (.int k1 (k1.wrap (a*b))))
 | .quo,.p (.int k1 a),.p (.int k2 b)=> .ret (k1=k2/\b≠0) (.p (.int k1 (k1.wrap (a.tdiv b))))
 | .rem,.p (.int k1 a),.p (.int k2 b)=> .ret (k1=k2/\b≠0) (.p (.int k1 (a.tmod b)))
 | .eql,.p (.int k1 a),.p (.int k2 b)=> .ret (k1=k2) (.p (.bool (decide (a=b))))
 | .neq,.p (.int k1 a),.p (.int k2 b)=> .ret (k1=k2) (.p (.bool (!decide (a=b))))
 | .lss,.p (.int k1 a),.p (.int k2 b)=> .ret (k1=k2) (.p (.bool (decide (a<b))))
 | .leq,.p (.int k1 a),.p (.int k2 b)=> .ret (k1=k2) (.p (.bool (decide (a<=b))))
 | .gtr,.p (.int k1 a),.p (.int k2 b)=> .ret (k1=k2) (.p (.bool (decide (b<a))))
 | .geq,.p (.int k1 a),.p (.int k2 b)=> .ret (k1=k2) (.p (.bool (decide (b<=a))))
 | .and,.p (.int k1 a),.p (.int k2 b)=> .ret (k1=k2) (.p (.int k1 (k1.wrap (BitVec.ofInt k1.bits a&&& BitVec.ofInt k1.bits b).toNat)))
 | .shr,.p (.int k1 a),.p (.int _ b)=> .ret (0<=b) (.p (.int k1 (a.fdiv (2 ^ (min b.toNat k1.bits)))))
 | .add,.p (.str a),.p (.str b)=> .ret (a.length+b.length<=maxLen) (.p (.str (a++b)))
 | .eql,.p (.str a),.p (.str b)=> .ret True (.p (.bool (decide (a=b))))
 | .neq,.p (.str a),.p (.str b)=> .ret True (.p (.bool (!decide (a=b))))
 | _,_,_=> .fail
theorem Aop{op:BinOp}{x y:D}{k:D->Prop}(h:(Arn op x y).all k):Aro op x y k:=by
 unfold Arn at h;split at h<;>first
   | exact h.elim
   | exact h
   | exact ⟨h.1.1,h.1.2,h.2⟩
   | exact h.2
def Ad4(P:Program)(op:BinOp)(t:TypeId)(x y:D):Rs D:=
 match op,x,y with
 | .eql,.p (.bool a),.p (.bool b)=>(match CG P t with | some ⟨_,_,.bool,_⟩=> .ret True (.p (.bool (a==b))) | _=> .fail)
 | .neq,.p (.bool a),.p (.bool b)=>(match CG P t with | some ⟨_,_,.bool,_⟩=> .ret True (.p (.bool (!(a==b)))) | _=> .fail)
 | .eql,.agg xs,.agg ys=>(match Un P t xs ys with | some b=> .ret True (.p (.bool b)) | none=> .fail)
 | .neq,.agg xs,.agg ys=>(match Un P t xs ys with | some b=> .ret True (.p (.bool (!b))) | none=> .fail)
 | .eql,.p (.sl es),.cl []=>(match CG P t with | some ⟨_,_,.slice _,_⟩=> .ret (es≠[]) (.p (.bool false)) | _=> .fail)
 | .eql,.cl es,.cl []=>(match CG P t with | some ⟨_,_,.slice _,_⟩=> .ret True (.p (.bool es.isEmpty)) | _=> .fail)
 | op,x,y=>Arn op x y
theorem Ai3{P:Program}{op:BinOp}{t:TypeId}{x y:D}{k:D->Prop}(h:(Ad4 P op t x y).all k):Nh P op t x y k:=by
 unfold Ad4 at h;split at h
 . split at h
   . rename_i h1;simp only[Nh,h1];exact h.2
   . exact h.elim
 . split at h
   . rename_i h1;simp only[Nh,h1];exact h.2
   . exact h.elim
 . split at h
   . rename_i h1;simp only[Nh,h1];exact h.2
   . exact h.elim
 . split at h
   . rename_i h1;simp only[Nh,h1];exact h.2
   . exact h.elim
 . split at h
   . rename_i h1;simp only[Nh,h1];exact h
   . exact h.elim
 . split at h
   . rename_i h1;simp only[Nh,h1];exact h.2
   . exact h.elim
 . rename_i n1 n2 n3 n4 n5 n6;have h2:=Aop h;unfold Nh;split
   . exact (n1 _ _ rfl rfl rfl).elim
   . exact (n2 _ _ rfl rfl rfl).elim
   . exact (n3 _ _ rfl rfl rfl).elim
   . exact (n4 _ _ rfl rfl rfl).elim
   . exact (n5 _ rfl rfl rfl).elim
   . exact (n6 _ rfl rfl rfl).elim
   . exact h2
def unR(op:UnOp)(x:D):Rs D:=
 match op,x with
 | .not,.p (.bool b)=> .ret True (.p (.bool (!b)))
 | .neg,.p (.int kd n)=> .ret True (.p (.int kd (kd.wrap (0 - n))))
 | _,_=> .fail
theorem Apl{op:UnOp}{x:D}{k:D->Prop}(h:(unR op x).all k):unD op x k:=by
 unfold unR at h;split at h<;>first | exact h.elim | exact h.2
def Acb(c a b:D):Rs D:=
 match c,a,b with
 | .p (.bool t),.p (.bool x),.p (.bool y)=> .ret True (.p (.bool (if t then x else y)))
 | .p (.bool t),a,b=> .split t (.ret True a) (.ret True b)
 | _,_,_=> .fail
theorem Ae8{c x y:D}{k:D->Prop}(h:(Acb c x y).all k):YW c x y k:=by
 unfold Acb at h;unfold YW;split at h
 . exact h.2
 . rename_i t a b Dl;split
   . rename_i e1 e2 e3;exact (Dl _ _ rfl rfl).elim
   . rename_i e _;cases e;exact WT.mono h (λ h=>h.2) (λ h=>h.2)
   . rename_i h1 _;exact (h1 _ rfl).elim
 . exact h.elim
def Ad3(P:Program)(s d:TypeId)(x:D):Rs D:=
 match CG P s,CG P d,x with
 | some _,some ⟨_,_,.int kd,_⟩,.p (.int _ n)=> .ret True (.p (.int kd (kd.wrap n)))
 | some _,some ⟨_,_,.string,_⟩,.p (.str l)=> .ret True (.p (.str l))
 | some ⟨_,_,.slice e,_⟩,some ⟨_,_,.string,_⟩,.p (.sl es)=>match CG P e,SG es with
   | some ⟨_,_,.int .u8,_⟩,some l=> .ret True (.p (.str l))
   | _,_=> .fail
 | _,_,_=> .fail
theorem Aho{P:Program}{s d:TypeId}{x:D}{k:D->Prop}(h:(Ad3 P s d x).all k):j5 P s d x k:=by
 unfold Ad3 at h;unfold j5;split at h
 . rename_i h1 h2;simp only[h1,h2];exact h.2
 . rename_i h1 h2;simp only[h1,h2];exact h.2
 . rename_i h1 h2;simp only[h1,h2];split at h
   . rename_i h3 h4;simp only[h3,h4];exact h.2
   . exact h.elim
 . exact h.elim
def Abh(h:Hp)(id N:Nat):Prop:=match sg h id with | some (.arr _ m)=>N=m | _=>False
def GW(P:Program)(t:TypeId)(x:D)(f:Nat)(h:Hp):Rs D:=
 match CG P t with
 | some ⟨_,_,.struct fs,_⟩=>match fs[f]? with
   | some (o,u)=>match CG P u with
     | some ti=>match x with
       | .ptr id off=> .ret (ti.size≠0) (.ptr id (off+o))
       | .pe cs=> .ret (ti.size≠0) (.pe (cs.drop o))
       | .ea id i c N=> .ret (ti.size≠0/\Abh h id N) (.ea id i (c+o) N)
       | _=> .fail
     | none=> .fail
   | none=> .fail
 | _=> .fail
theorem Uk{P:Program}{t:TypeId}{x:D}{f:Nat}{h:Hp}{k:D->Prop}(hh:(GW P t x f h).all k):JI P t x f h k:=by
 unfold GW at hh;unfold JI;split at hh
 . rename_i h1;simp only[h1];split at hh
   . rename_i h2;simp only[h2];split at hh
     . rename_i h3;simp only[h3];split at hh
       . exact hh
       . exact hh
       . exact ⟨hh.1.1,hh.1.2,hh.2⟩
       . exact hh.elim
     . exact hh.elim
   . exact hh.elim
 . exact hh.elim
def XK(P:Program)(t:TypeId)(x:D)(f:Nat):Rs D:=
 match CG P t with
 | some ⟨_,_,.struct fs,_⟩=>match fs[f]?,x with
   | some (o,u),.agg cs=>match CG P u with
     | some ti=>VV ti cs o
     | none=> .fail
   | _,_=> .fail
 | _=> .fail
theorem Abb{P:Program}{t:TypeId}{x:D}{f:Nat}{k:D->Prop}(hh:(XK P t x f).all k):Uj P t x f k:=by
 unfold XK at hh;unfold Uj;split at hh
 . rename_i h1;simp only[h1];split at hh
   . rename_i h2;simp only[h2];split at hh
     . rename_i h3;simp only[h3];exact Q0 hh
     . exact hh.elim
   . exact hh.elim
 . exact hh.elim
def GV(P:Program)(t:TypeId)(x i:D)(h:Hp):Rs D:=
 match CG P t,i with
 | some ⟨_,_,.slice e,_⟩,.p (.int _ n)=>match CG P e with
   | some ti=>match x with
     | .p (.sl es)=> .ret ((0<=n/\n<es.length)/\(es.getD n.toNat []).length=ti.size) (.pe (es.getD n.toNat []))
     | .cl es=> .ret ((0<=n/\n<es.length)/\(es.getD n.toNat []).length=ti.size) (.pe (es.getD n.toNat []))
     | .ref id off len N=>match sg h id with
       | some (.arr sz m)=> .ret ((0<=n/\n<len)/\sz=ti.size/\N=m) (.ea id (off+n.toNat) 0 N)
       | _=> .fail
     | .Dt id N=> .ret ((0<=n/\n<N)/\ti.size=1) (.MG id n.toNat N)
     | _=> .fail
   | none=> .fail
 | some ⟨_,_,.array m e,_⟩,.p (.int _ n)=>match CG P e,x with
   | some ti,.ptr id off=> .ret (0<=n/\n<m) (.ptr id (off+n.toNat*ti.size))
   | some ti,.pe cs=> .ret (0<=n/\n<m) (.pe (cs.drop (n.toNat*ti.size)))
   | _,_=> .fail
 | _,_=> .fail
theorem TQ{P:Program}{t:TypeId}{x i:D}{h:Hp}{k:D->Prop}(hh:(GV P t x i h).all k):JD P t x i h k:=by
 unfold GV at hh;unfold JD;split at hh
 . rename_i h1;simp only[h1];split at hh
   . rename_i h2;simp only[h2];split at hh
     . exact ⟨hh.1.1,hh.1.2,hh.2⟩
     . exact ⟨hh.1.1,hh.1.2,hh.2⟩
     . split at hh
       . rename_i h3;simp only[h3];exact ⟨hh.1.1,hh.1.2.1,hh.1.2.2,hh.2⟩
       . exact hh.elim
     . exact ⟨hh.1.1,hh.1.2,hh.2⟩
     . exact hh.elim
   . exact hh.elim
 . rename_i h1;simp only[h1];split at hh
   . rename_i h2;simp only[h2];exact hh
   . rename_i h2;simp only[h2];exact hh
   . exact hh.elim
 . exact hh.elim
def Xt(P:Program)(t:TypeId)(x i:D):Rs D:=
 match CG P t,x,i with
 | some ⟨_,_,.string,_⟩,.p (.str l),.p (.int _ n)=> .ret (0<=n/\n<l.length) (.p (.int .u8 (l.getD n.toNat 0).toNat))
 | some ⟨_,_,.array m e,_⟩,.agg cs,.p (.int _ n)=>match CG P e with
   | some ti=>(VV ti cs (n.toNat*ti.size)).and (0<=n/\n<m)
   | none=> .fail
 | _,_,_=> .fail
theorem Aau{P:Program}{t:TypeId}{x i:D}{k:D->Prop}(hh:(Xt P t x i).all k):TP P t x i k:=by
 unfold Xt at hh;unfold TP;split at hh
 . rename_i h1;simp only[h1];exact hh
 . rename_i h1;simp only[h1];split at hh
   . rename_i h2;simp only[h2];exact ⟨(Rs.Es hh).1,Q0 (Rs.Es hh).2⟩
   . exact hh.elim
 . exact hh.elim
def Ea(st:St)(o:Option Operand)(XQ:Int):Rs Int:=
 match o with
 | none=> .ret True XQ
 | some x=>match ev st x with
   | .p (.int _ n)=> .ret True n
   | _=> .fail
theorem Abl{st:St}{o:Option Operand}{n:Int}{k:Int->Prop}(h:(Ea st o n).all k):Fa st o n k:=by
 unfold Ea at h;unfold Fa;split at h
 . exact h.2
 . split at h
   . rename_i h1;simp only[h1];exact h.2
   . exact h.elim
def JS(n:Nat)(es:List (List Pd)):Prop:=∀e∈es,e.length=n
theorem JS.get{n:Nat}{es:List (List Pd)}(h:JS n es):∀(i:Nat) e,es[i]?=some e->e.length=n:=λ _ e he=>h e (AR he)
def HO(P:Program)(st:St)(t:TypeId)(x:D)(lo hi mx:Option Operand):Rs D:=
 match CG P t,x with
 | some ⟨_,_,.string,_⟩,.p (.str l)=>(Ea st lo 0).bind λ a=>(Ea st hi l.length).bind λ b=>
     .ret (mx.isNone=true/\(0<=a/\a<=b/\b<=l.length)) (.p (.str ((l.take b.toNat).drop a.toNat)))
 | some ⟨_,_,.slice e,_⟩,x=>match CG P e with
   | some ti=>match x with
     | .p (.sl es)=>match mx with
       | none=>(Ea st lo 0).bind λ a=>(Ea st hi es.length).bind λ b=> .ret ((0<=a/\a<=b/\b<=es.length)/\JS ti.size es) (.p (.sl ((es.take b.toNat).drop a.toNat)))
       | some m=>(Ea st lo 0).bind λ a=>(Ea st hi es.length).bind λ b=>(Ea st (some m) 0).bind λ c=>
           .ret ((0<=a/\a<=b/\b=c/\c<=es.length)/\JS ti.size es/\hi.isSome=true) (.cz ((es.take b.toNat).drop a.toNat))
     | .ref id off len N=>match sg st.hp id with
       | some (.arr sz m)=>(Ea st lo 0).bind λ a=>(Ea st hi len).bind λ b=>
           .ret (mx.isNone=true/\sz=ti.size/\(0<=a/\a<=b/\b<=len)/\N=m) (.ref id (off+a.toNat) (b - a).toNat N)
       | _=> .fail
     | _=> .fail
   | none=> .fail
 | _,_=> .fail
theorem bd{st:St}{o:Option Operand}{n:Int}{f:Int->Rs D}{k:D->Prop}{k':Int->Prop}(h:((Ea st o n).bind f).all k)(hf:∀a,(f a).all k->k' a):Fa st o n k':=
 Abl (Rs.Cg hf (Rs.all_bind h))
theorem RE{st:St}{o:Option Operand}{n:Int}{q:Prop}{k:Int->Prop}(h:Fa st o n (λ a=>q/\k a)):q/\Fa st o n k:=by
 unfold Fa at*;cases o with
 | none=>exact h
 | some x=>
   simp only at h ⊢;split at h
   . rename_i h1;exact h
   . exact h.elim
theorem Sk{st:St}{o:Option Operand}{n:Int}{k k':Int->Prop}(hk:∀a,k a->k' a)(h:Fa st o n k):Fa st o n k':=by
 unfold Fa at*;split at h
 . exact hk _ h
 . split at h
   . exact hk _ h
   . exact h.elim
theorem Aa1{P:Program}{st:St}{t:TypeId}{x:D}{lo hi mx:Option Operand}{k:D->Prop}(hh:(HO P st t x lo hi mx).all k):Tb P st t x lo hi mx k:=by
 unfold HO at hh;unfold Tb;split at hh
 . rename_i h1;simp only[h1];refine RE (bd hh λ a h=>RE (bd h λ b h=>?_));exact ⟨h.1.1,h.1.2,h.2⟩
 . rename_i h1;split at hh
   case h_2=>exact hh.elim
   rename_i h2;split at hh
   . rw[h1];simp only[h2];split at hh
     . exact bd hh λ a h=>bd h λ b h=>⟨h.1.1,h.1.2.get,h.2⟩
     . exact bd hh λ a h=>bd h λ b h=>bd h λ c h=>⟨h.1.1,h.1.2.1.get,h.1.2.2,h.2⟩
   . rw[h1];simp only[h2];split at hh
     . rename_i h3;simp only[h3];have h4:=bd hh λ a h=>bd h λ b h=>(⟨h.1.1,h.1.2.1,h.1.2.2.1,h.1.2.2.2,h.2⟩:mx.isNone=true/\_/\_/\_/\_);have h5:=RE (Sk (λ a h=>RE h) h4);have h6:=RE (Sk (λ a h=>RE h) h5.2);exact ⟨h5.1,h6.1,h6.2⟩
     . exact hh.elim
   . exact hh.elim
 . exact hh.elim
def UH(P:Program)(st:St)(t:TypeId)(parts:List (Nat×Operand)):Rs D:=
 match CG P t with
 | some ⟨_,_,.struct fs,z⟩=>
   match Lv P fs,z with
   | some pl,.agg zs=>match GO (λ i=>pl[i]?) zs (parts.map λ q=>(q.1,ev st q.2)) with
     | some cs=> .ret True (.agg cs)
     | none=> .fail
   | _,_=> .fail
 | some ⟨_,_,.array _ e,z⟩=>
   match CG P e,z with
   | some ti,.agg zs=>match GO (λ i=>some (i*ti.size,ti.size)) zs (parts.map λ q=>(q.1,ev st q.2)) with
     | some cs=> .ret True (.agg cs)
     | none=> .fail
   | _,_=> .fail
 | _=> .fail
theorem Abk{P:Program}{st:St}{t:TypeId}{parts:List (Nat×Operand)}{k:D->Prop}(hh:(UH P st t parts).all k):UI P st t parts k:=by
 unfold UH at hh;unfold UI;split at hh
 . rename_i h1;simp only[h1];split at hh
   . rename_i h2;simp only[h2];split at hh
     . rename_i h3;simp only[h3];exact hh.2
     . exact hh.elim
   . exact hh.elim
 . rename_i h1;simp only[h1];split at hh
   . rename_i h2;simp only[h2];split at hh
     . rename_i h3;simp only[h3];exact hh.2
     . exact hh.elim
   . exact hh.elim
 . exact hh.elim
def Qf(x:D)(i:Nat):Rs D:=
 match x with
 | .Dr cs=>match cs[i]? with
   | some d=> .ret True d
   | none=> .fail
 | _=> .fail
theorem XN{x:D}{i:Nat}{k:D->Prop}(hh:(Qf x i).all k):M5 x i k:=by
 unfold Qf at hh;unfold M5;split at hh
 . split at hh
   . rename_i h1;simp only[h1];exact hh.2
   . exact hh.elim
 . exact hh.elim
def LA(P:Program)(h:Hp)(t:TypeId)(x i:D)(ok:Bool):Rs D:=
 match mapOf P t,x,i with
 | some (kk,z),.mv id,.p key=>match get h id with
   | some (.mp l)=> .ret (kk.fit key=true/\Q7 key l) (EI z ok (TC key l))
   | _=> .fail
 | _,_,_=> .fail
theorem Y6{P:Program}{h:Hp}{t:TypeId}{x i:D}{ok:Bool}{k:D->Prop}(hh:(LA P h t x i ok).all k):PJ P h t x i ok k:=by
 unfold LA at hh;unfold PJ;split at hh
 . rename_i h0;simp only[h0];split at hh
   . rename_i h1;simp only[h1];exact hh
   . exact hh.elim
 . exact hh.elim
def Kf(P:Program)(h:Hp)(t:TypeId)(m i v:D):Rs Hp:=
 match mapOf P t,m,i,v with
 | some (kk,_),.mv id,.p key,.p x=>match get h id with
   | some (.mp l)=> .ret (kk.fit key=true/\Q7 key l/\x.flat=true) (Cy h id (.mp (KJ key x l)))
   | _=> .fail
 | _,_,_,_=> .fail
theorem Aaf{P:Program}{h:Hp}{t:TypeId}{m i v:D}{k:Hp->Prop}(hh:(Kf P h t m i v).all k):TE P h t m i v k:=by
 unfold Kf at hh;unfold TE;split at hh
 . rename_i h0;simp only[h0];split at hh
   . rename_i h1;simp only[h1];exact hh
   . exact hh.elim
 . exact hh.elim
def J7(P:Program)(st:St)(op:Op):Rs D:=
 match op with
 | .move x | .assign x=> .ret True (ev st x)
 | .pick c a b=>Acb (ev st c) (ev st a) (ev st b)
 | .binOp op t x y _=>Ad4 P op t (ev st x) (ev st y)
 | .unOp op _ x=>unR op (ev st x)
 | .nilCheck x=>match ev st x with
   | .ptr id off=> .ret True (.ptr id off)
   | .pe cs=> .ret True (.pe cs)
   | .ea id i c N=> .ret (Abh st.hp id N) (.ea id i c N)
   | _=> .fail
 | .convert s d x=>Ad3 P s d (ev st x)
 | .build t parts=>UH P st t parts.toList
 | .load t a=>MJ P st.hp t (ev st a)
 | .slice t x lo hi mx=>HO P st t (ev st x) lo hi mx
 | .fieldAddr t x f=>GW P t (ev st x) f st.hp
 | .field t x f=>XK P t (ev st x) f
 | .indexAddr t x i=>GV P t (ev st x) (ev st i) st.hp
 | .index t x i=>Xt P t (ev st x) (ev st i)
 | .extract t i=>Qf (ev st t) i
 | .lookup t x i ok=>LA P st.hp t (ev st x) (ev st i) ok
 | .makeFunc (.func f) first cap=> .ret (first.size=0) (.fn f (cap.toList.map (ev st)))
 | _=> .fail
theorem Yz{P:Program}{st:St}{op:Op}{k:D->Prop}(hh:(J7 P st op).all k):vOp P st op k:=by
 unfold J7 at hh;unfold vOp;split at hh
 . exact hh.2
 . exact hh.2
 . exact Ae8 hh
 . exact Ai3 hh
 . exact Apl hh
 . split at hh
   . rename_i h1;simp only[h1];exact hh.2
   . rename_i h1;simp only[h1];exact hh.2
   . rename_i h1;simp only[h1];exact hh
   . exact hh.elim
 . exact Aho hh
 . exact Abk hh
 . exact V4 hh
 . exact Aa1 hh
 . exact Uk hh
 . exact Abb hh
 . exact TQ hh
 . exact Aau hh
 . exact XN hh
 . exact Y6 hh
 . exact hh
 . exact hh.elim
def Vb(h:Hp)(d:D):Rs (Pd×Hp):=
 match d with
 | .p x=> .ret True (x,h)
 | .cl es=> .ret True (.sl es,h)
 | .cz es=> .ret True (.sl es,h)
 | .ref id off len N=>match get h id with
   | some (.arr _ _ es)=> .ret (N=es.length) (.sl ((es.drop off).take len),froze h id)
   | some (.M3 _ es)=> .ret (N=es.length) (.sl ((es.drop off).take len),h)
   | _=> .fail
 | .Dt id n=>match get h id with
   | some (.Dp _ _ sz kk rows none)=> .ret (n=rows.length) (.sl (rows.map λ r=>[.sl r]),Cy h id (.Fi (IU (.Dp sz rows.length kk))))
   | _=> .fail
 | _=> .fail
theorem Ajx{h:Hp}{d:D}{k:Pd->Hp->Prop}(hh:(Vb h d).all (λ x=>k x.1 x.2)):KF h d k:=by
 unfold Vb at hh;unfold KF;split at hh
 . exact hh.2
 . exact hh.2
 . exact hh.2
 . split at hh
   . rename_i h1;simp only[h1];exact hh
   . rename_i h1;simp only[h1];exact hh
   . exact hh.elim
 . split at hh
   . rename_i h1;simp only[h1];exact hh
   . exact hh.elim
 . exact hh.elim
def Ik:Hp->List D->Rs (List Pd×Hp)
 | h,[]=> .ret True ([],h)
 | h,d::r=>(Vb h d).bind λ x=>(Ik x.2 r).bind λ y=> .ret True (x.1::y.1,y.2)
theorem VU{h:Hp}{d:D}{k k':Pd->Hp->Prop}(hk:∀x h,k x h->k' x h)(hh:KF h d k):KF h d k':=by
 unfold KF at*;cases d with
 | p x=>exact hk _ _ hh
 | cl es=>exact hk _ _ hh
 | cz es=>exact hk _ _ hh
 | ref id off len N=>
   simp only at hh ⊢;split at hh
   . exact ⟨hh.1,hk _ _ hh.2⟩
   . exact ⟨hh.1,hk _ _ hh.2⟩
   . exact hh.elim
 | Dt id n=>
   simp only at hh ⊢;split at hh
   . exact ⟨hh.1,hk _ _ hh.2⟩
   . exact hh.elim
 | _=>exact hh
theorem Lt:∀{ds:List D} {h:Hp} {k k':List Pd->Hp->Prop},(∀x h,k x h->k' x h)->HE h ds k->HE h ds k'
 | [],h,k,k',hk,hh=>hk _ _ hh
 | d::r,h,k,k',hk,hh=>VU (λ x h' h1=>Lt (λ xs h'' h2=>hk _ _ h2) h1) hh
theorem VS:∀{ds:List D} {h:Hp} {k:List Pd->Hp->Prop},(Ik h ds).all (λ x=>k x.1 x.2)->HE h ds k
 | [],h,k,hh=>hh.2
 | d::r,h,k,hh=>by
   simp only[Ik] at hh;exact Ajx (Rs.Cg (λ x h1=>VS (Rs.Cg (λ y h2=>h2.2) (Rs.all_bind h1))) (Rs.all_bind hh))
theorem OJ{ds:List D}{h:Hp}{K:List Pd×Hp->Prop}(hh:(Ik h ds).all K):HE h ds (λ x h=>K (x,h)):=VS (k:=λ x h=>K (x,h)) hh
def S7(h:Hp)(d:D):Rs (List (List Pd)):=
 match d with
 | .p (.sl ys)=> .ret True ys
 | .p (.str l)=> .ret True (Ew l)
 | .cl ys=> .ret True ys
 | .ref id off len N=>match get h id with
   | some (.arr _ _ es)=> .ret (N=es.length) ((es.drop off).take len)
   | some (.M3 _ es)=> .ret (N=es.length) ((es.drop off).take len)
   | _=> .fail
 | _=> .fail
theorem YF{h:Hp}{d:D}{k:List (List Pd)->Prop}(hh:(S7 h d).all k):Mp h d k:=by
 unfold S7 at hh;unfold Mp;split at hh
 . exact hh.2
 . exact hh.2
 . exact hh.2
 . split at hh
   . rename_i h1;simp only[h1];exact hh
   . rename_i h1;simp only[h1];exact hh
   . exact hh.elim
 . exact hh.elim
def W2{α:Type}:Nat->Rs α->Rs α
 | 0,r=>r
 | _+1,_=> .fail
theorem OB{α:Type}{n:Nat}{r:Rs α}{k:α->Prop}(h:(W2 n r).all k):n=0/\r.all k:=by
 cases n with
 | zero=>exact ⟨rfl,h⟩
 | succ n=>exact h.elim
theorem VJ{α:Type}{n:Nat}{r:Rs α}{k:α->Prop}(h0:n=0)(h:r.all k):(W2 n r).all k:=by
 subst h0;exact h
def UM(P:Program)(h:Hp)(q:Nat)(t t2:TypeId)(s x:D):Rs (D×Hp):=
 match CG P t,CG P t2 with
 | some ⟨_,_,.slice e,_⟩,some ti2=>match CG P e with
   | some ti=>(S7 h x).bind λ ys=>match s with
     | .cl es=> .ret ((match ti2.k with | .slice _=>True | .string=>True | _=>False)/\JS ti.size ys/\0<ti.size/\ti.zero.cells.length=ti.size/\
           get h q=none/\(es=[]∨ys≠[])/\JS ti.size es/\(es.length+ys.length)*ti.bytes<=140737488355328/\es.length+ys.length<=140737488355328)
         (.ref q 0 (es++ys).length (es++ys).length,(q,.arr e ti.size (es++ys))::h)
     | .cz es=> .ret ((match ti2.k with | .slice _=>True | .string=>True | _=>False)/\JS ti.size ys/\0<ti.size/\ti.zero.cells.length=ti.size/\
           get h q=none/\ys≠[]/\JS ti.size es/\(es.length+ys.length)*ti.bytes<=140737488355328/\es.length+ys.length<=140737488355328)
         (.ref q 0 (es++ys).length (es++ys).length,(q,.arr e ti.size (es++ys))::h)
     | .ref id off len N=>W2 off (match get h id with
       | some (.arr e' sz es)=> .ret ((match ti2.k with | .slice _=>True | .string=>True | _=>False)/\JS ti.size ys/\0<ti.size/\ti.zero.cells.length=ti.size/\
           off=0/\N=es.length/\len=es.length/\e'=e/\sz=ti.size/\(es.length+ys.length)*ti.bytes<=140737488355328/\es.length+ys.length<=140737488355328)
         (.ref id 0 (es++ys).length (es++ys).length,Cy h id (.arr e sz (es++ys)))
       | _=> .fail)
     | .nr id i len kk=>match get h id with
       | some (.Dp t3 e' sz k2 rows none)=> .ret ((match ti2.k with | .slice _=>True | .string=>True | _=>False)/\JS ti.size ys/\0<ti.size/\ti.zero.cells.length=ti.size/\
           (e'=e/\sz=ti.size/\kk=k2/\len=(rows.getD i []).length/\i<rows.length/\get h q=none)/\(len+ys.length)*ti.bytes<=140737488355328/\len+ys.length<=140737488355328)
         (.ref q 0 (rows.getD i []++ys).length (rows.getD i []++ys).length,(q,.arr e sz (rows.getD i []++ys))::Cy h id (.Dp t3 e' sz (k2+1) rows (some i)))
       | _=> .fail
     | _=> .fail
   | none=> .fail
 | _,_=> .fail
theorem VK{h:Hp}{d:D}{k k':List (List Pd)->Prop}(hk:∀x,k x->k' x)(hh:Mp h d k):Mp h d k':=by
 unfold Mp at*;split at hh
 . exact hk _ hh
 . exact hk _ hh
 . exact hk _ hh
 . split at hh
   . exact ⟨hh.1,hk _ hh.2⟩
   . exact ⟨hh.1,hk _ hh.2⟩
   . exact hh.elim
 . exact hh.elim
theorem Aj3{h:Hp}{d:D}{q:Prop}{k:List (List Pd)->Prop}(hh:Mp h d (λ ys=>q/\k ys)):q/\Mp h d k:=by
 unfold Mp at*;split at hh
 . exact hh
 . exact hh
 . exact hh
 . split at hh
   . exact ⟨hh.2.1,hh.1,hh.2.2⟩
   . exact ⟨hh.2.1,hh.1,hh.2.2⟩
   . exact hh.elim
 . exact hh.elim
theorem l7{P:Program}{h:Hp}{q:Nat}{t t2:TypeId}{s x:D}{k:D->Hp->Prop}(hh:(UM P h q t t2 s x).all (λ x=>k x.1 x.2)):l8 P h q t t2 s x k:=by
 unfold UM at hh;unfold l8;split at hh
 case h_2=>exact hh.elim
 rename_i h1 h2;simp only[h1,h2];split at hh
 case h_2=>exact hh.elim
 rename_i h3;simp only[h3];refine Aj3 (VK (λ ys hy=>?_) (YF (Rs.all_bind hh)));split at hy
 . obtain ⟨⟨a1,a2,a3,a4,a5,a6,a7,a8,a9⟩,hk⟩:=hy;exact ⟨a1,a2,a3,a4,a5,a6,a7,a8,a9,hk⟩
 . obtain ⟨⟨a1,a2,a3,a4,a5,a6,a7,a8,a9⟩,hk⟩:=hy;exact ⟨a1,a2,a3,a4,a5,a6,a7,a8,a9,hk⟩
 . have hy:=(OB hy).2;split at hy
   . rename_i h4;obtain ⟨⟨a1,a2,a3,a4,a5,a6,a7,a8,a9,a10,a11⟩,hk⟩:=hy;simp only[h4];exact ⟨a1,a2,a3,a4,a5,a6,a7,a8,a9,a10,a11,hk⟩
   . exact hy.elim
 . split at hy
   . rename_i h4;obtain ⟨⟨a1,a2,a3,a4,a5,a6,a7⟩,hk⟩:=hy;simp only[h4];exact ⟨a1,a2,a3,a4,a5,a6,a7,hk⟩
   . exact hy.elim
 . exact hy.elim
def FH(h:Hp)(id i n:Nat)(v:D):Rs Hp:=
 match v with
 | .ref q off len N=>match get h q,get h id with
   | some (.arr e2 Su es),some (.Dp t e sz k2 rows hole)=> .ret (off=0/\e2=e/\Su=sz/\N=es.length/\len=N/\n=rows.length/\(hole=none∨hole=some i))
       (Cy (Cy h id (.Dp t e sz (Atv hole k2) (rows.set i es) none)) q (.Fi (IU (.arr sz (es.length+1)))))
   | _,_=> .fail
 | _=> .fail
theorem Vd{h:Hp}{id i n:Nat}{v:D}{k:Hp->Prop}(hh:(FH h id i n v).all k):MD h id i n v k:=by
 unfold FH at hh;unfold MD;split at hh
 . split at hh
   . rename_i h1 h2;simp only[h1,h2];exact hh
   . exact hh.elim
 . exact hh.elim
def J9(P:Program)(h:Hp)(t:TypeId)(a v:D):Rs Hp:=
 match CG P t with
 | some ti=>match v.stored with
   | some cs=>match a with
     | .ptr id off=>match get h id with
       | some (.box bs ty)=> .ret (cs.length=ti.size/\off+cs.length<=bs.length) (Cy h id (.box (bs.take off++cs++bs.drop (off+cs.length)) (L4 ty (bs.take off++cs++bs.drop (off+cs.length)))))
       | _=> .fail
     | .ea id i c N=>(Ik h cs).bind λ y=>match get y.2 id with
       | some (.arr e sz es)=> .ret (cs.length=ti.size/\N=es.length/\c+y.1.length<=sz) (Cy y.2 id (.arr e sz (es.set i ((es.getD i []).take c++y.1++(es.getD i []).drop (c+y.1.length)))))
       | _=> .fail
     | .MG id i n=>(FH h id i n v).and (cs.length=ti.size)
     | _=> .fail
   | none=> .fail
 | none=> .fail
theorem G0:∀{ds:List D} {h:Hp} {q:Prop} {k:List Pd->Hp->Prop},HE h ds (λ x h=>q/\k x h)->q/\HE h ds k
 | [],h,q,k,hh=>hh
 | d::r,h,q,k,hh=>by
   have h1:KF h d (λ x h'=>q/\HE h' r λ xs h''=>k (x::xs) h''):=VU (λ x h' h2=>G0 h2) hh;simp only[HE];unfold KF at h1 ⊢;cases d with
   | p x=>exact h1
   | cl es=>exact h1
   | cz es=>exact h1
   | ref id off len N=>
     simp only at h1 ⊢;split at h1
     . rename_i h2;exact ⟨h1.2.1,h1.1,h1.2.2⟩
     . rename_i h2;exact ⟨h1.2.1,h1.1,h1.2.2⟩
     . exact h1.elim
   | Dt id n=>
     simp only at h1 ⊢;split at h1
     . rename_i h2;exact ⟨h1.2.1,h1.1,h1.2.2⟩
     . exact h1.elim
   | _=>exact h1.elim
theorem y9{P:Program}{h:Hp}{t:TypeId}{a v:D}{k:Hp->Prop}(hh:(J9 P h t a v).all k):S5 P h t a v k:=by
 unfold J9 at hh;unfold S5;split at hh
 case h_2=>exact hh.elim
 rename_i h1;simp only[h1];split at hh
 case h_2=>exact hh.elim
 rename_i h2;simp only[h2];split at hh
 . split at hh
   . rename_i h3;simp only[h3];exact ⟨hh.1.1,hh.1.2,hh.2⟩
   . exact hh.elim
 . refine G0 (Lt (λ x h' hx=>?_) (OJ (Rs.all_bind hh)));simp only at hx;split at hx
   . rename_i h3;simp only[h3];exact ⟨hx.1.1,hx.1.2.1,hx.1.2.2,hx.2⟩
   . exact hx.elim
 . exact ⟨(Rs.Es hh).1,Vd (Rs.Es hh).2⟩
 . exact hh.elim
def TK.Aqj:TK->Bool
 | .slice _=>true
 | _=>false
def D.Ako:D->Bool
 | .cl []=>true
 | _=>false
def Xi(ti:TI)(cs:List D):Bool:=ti.k.Aqj&&(!cs.isEmpty&&cs.all D.Ako)
def Lz(P:Program)(st:St)(q:Nat)(op:Op):Rs (D×Hp):=
 match op with
 | .alloc t=>match CG P t with
   | some ti=>match ti.zero.stored with
     | some cs=> .ret (get st.hp q=none) (.ptr q 0,(q,.box cs (npT t cs))::st.hp)
     | none=> .fail
   | none=> .fail
 | .box _ x=>match (ev st x).stored with
   | some cs=> .ret (get st.hp q=none) (.ptr q 0,(q,.box cs)::st.hp)
   | none=> .fail
 | .store t a x=>(J9 P st.hp t (ev st a) (ev st x)).bind λ h=> .ret True (.Dr [],h)
 | .makeMap _ none=> .ret (get st.hp q=none) (.mv q,(q,.mp [])::st.hp)
 | .mapUpdate t m i x=>(Kf P st.hp t (ev st m) (ev st i) (ev st x)).bind λ h=> .ret True (.Dr [],h)
 | .buildSlice t n parts=>match CG P t with
   | some ⟨_,_,.slice e,_⟩=>match CG P e with
     | some ti=>match GO (λ i=>some (i*ti.size,ti.size)) (List.replicate (n*ti.size) .bad) (parts.toList.map λ q=>(q.1,ev st q.2)) with
       | some cs=>if Xi ti cs=true then .fail else (Ik st.hp cs).bind λ y=> .ret (0<ti.size/\n*ti.size<=16777216/\get y.2 q=none) (.ref q 0 n n,(q,.arr e ti.size (chunk ti.size n y.1))::y.2)
       | none=> .fail
     | none=> .fail
   | _=> .fail
 | .makeSlice t l m=>match CG P t,ev st l,ev st m with
   | some ⟨_,_,.slice e,_⟩,.p (.int _ l),.p (.int _ m)=>match CG P e with
     | some ti=>if ti.k.Aqj=true then .fail else (Ik [] ti.zero.cells).bind λ y=> .ret (0<ti.size/\get st.hp q=none/\(0<=l/\l<=m/\m*ti.bytes<=140737488355328/\m<=140737488355328)/\ti.zero.cells.length=ti.size)
         (.ref q 0 l.toNat l.toNat,(q,.arr e ti.size (List.replicate l.toNat y.1))::st.hp)
     | none=> .fail
   | _,_,_=> .fail
 | _=> .fail
theorem Im{P:Program}{st:St}{q:Nat}{op:Op}{k:D->Hp->Prop}(hh:(Lz P st q op).all (λ x=>k x.1 x.2)):mOp P st q op k:=by
 unfold Lz at hh;unfold mOp;split at hh
 . split at hh
   . rename_i h1;simp only[h1];split at hh
     . rename_i h2;simp only[h2];exact hh
     . exact hh.elim
   . exact hh.elim
 . split at hh
   . rename_i h2;simp only[h2];exact hh
   . exact hh.elim
 . exact y9 (Rs.Cg (λ h hx=>hx.2) (Rs.all_bind hh))
 . exact hh
 . exact Aaf (Rs.Cg (λ h hx=>hx.2) (Rs.all_bind hh))
 . split at hh
   . rename_i h1;simp only[h1];split at hh
     . rename_i h2;simp only[h2];split at hh
       . rename_i h3;simp only[h3];split at hh
         . exact hh.elim
         have h4:=Lt (k':=λ y h=>_/\_/\get h q=none/\k _ _) (λ y h hy=>⟨hy.1.1,hy.1.2.1,hy.1.2.2,hy.2⟩) (OJ (Rs.all_bind hh));have h5:=G0 h4;have h6:=G0 h5.2;exact ⟨h5.1,h6.1,h6.2⟩
       . exact hh.elim
     . exact hh.elim
   . exact hh.elim
 . split at hh
   . rename_i h1 h2 h3;simp only[h1,h2,h3];split at hh
     . rename_i h4;simp only[h4];split at hh
       . exact hh.elim
       have h5:=Lt (k':=λ y h=>_/\_/\_/\_/\k _ _) (λ y h hy=>⟨hy.1.1,hy.1.2.1,hy.1.2.2.1,hy.1.2.2.2,hy.2⟩) (OJ (Rs.all_bind hh));have h6:=G0 h5;have h7:=G0 h6.2;have h8:=G0 h7.2;have h9:=G0 h8.2;exact ⟨h6.1,h7.1,h8.1,h9.1,h9.2⟩
     . exact hh.elim
   . exact hh.elim
 . exact hh.elim
def SJ(h:Hp)(d:D):Rs (D×Hp):=
 match d with
 | .ref id off len N=>match get h id with
   | some (.arr _ _ es)=> .ret (N=es.length) (.p (.sl ((es.drop off).take len)),froze h id)
   | some (.M3 _ es)=> .ret (N=es.length) (.p (.sl ((es.drop off).take len)),h)
   | _=> .fail
 | .Dt id n=>match get h id with
   | some (.Dp _ _ sz kk rows none)=> .ret (n=rows.length) (.p (.sl (rows.map λ r=>[.sl r])),Cy h id (.Fi (IU (.Dp sz rows.length kk))))
   | _=> .fail
 | .cl es=> .ret True (.p (.sl es),h)
 | d=> .ret True (d,h)
theorem Er{h:Hp}{d:D}{k:D->Hp->Prop}(hh:(SJ h d).all (λ x=>k x.1 x.2)):bor h d k:=by
 cases d with
 | ref id off len N=>
   simp only[SJ] at hh;simp only[bor];split at hh
   . exact hh
   . exact hh
   . exact hh.elim
 | Dt id n=>
   simp only[SJ] at hh;simp only[bor];split at hh
   . exact hh
   . exact hh.elim
 | cl es=>exact hh.2
 | _=>exact hh.2
mutual
def C4 (h:Hp) (d:D):Rs (D×Hp):=
  match d with
  | .agg cs=>(FV h cs).bind λ x=> .ret True (.agg x.1,x.2)
  | .Dr cs=>(FV h cs).bind λ x=> .ret True (.Dr x.1,x.2)
  | d=>SJ h d
def FV:Hp->List D->Rs (List D×Hp)
  | h,[]=> .ret True ([],h)
  | h,d::r=>(C4 h d).bind λ x=>(FV x.2 r).bind λ y=> .ret True (x.1::y.1,y.2)
end
mutual
theorem RD:∀{d:D} {h:Hp} {k:D->Hp->Prop},(C4 h d).all (λ x=>k x.1 x.2)->Fh h d k
  | .agg cs,h,k,hh=>by simp only[C4] at hh;simp only[Fh];exact LV (Rs.Cg (λ x hx=>hx.2) (Rs.all_bind hh))
  | .Dr cs,h,k,hh=>by simp only[C4] at hh;simp only[Fh];exact LV (Rs.Cg (λ x hx=>hx.2) (Rs.all_bind hh))
  | .p _,h,k,hh=>by simp only[C4] at hh;simp only[Fh];exact Er hh
  | .cl _,h,k,hh=>by simp only[C4] at hh;simp only[Fh];exact Er hh
  | .cz _,h,k,hh=>by simp only[C4] at hh;simp only[Fh];exact Er hh
  | .ref _ _ _ _,h,k,hh=>by simp only[C4] at hh;simp only[Fh];exact Er hh
  | .ptr _ _,h,k,hh=>by simp only[C4] at hh;simp only[Fh];exact Er hh
  | .pe _,h,k,hh=>by simp only[C4] at hh;simp only[Fh];exact Er hh
  | .ea _ _ _ _,h,k,hh=>by simp only[C4] at hh;simp only[Fh];exact Er hh
  | .fn _ _,h,k,hh=>by simp only[C4] at hh;simp only[Fh];exact Er hh
  | .np,h,k,hh=>by simp only[C4] at hh;simp only[Fh];exact Er hh
  | .mv _,h,k,hh=>by simp only[C4] at hh;simp only[Fh];exact Er hh
  | .Dt _ _,h,k,hh=>by simp only[C4] at hh;simp only[Fh];exact Er hh
  | .MG _ _ _,h,k,hh=>by simp only[C4] at hh;simp only[Fh];exact Er hh
  | .nr _ _ _ _,h,k,hh=>by simp only[C4] at hh;simp only[Fh];exact Er hh
  | .Sq,h,k,hh=>by simp only[C4] at hh;simp only[Fh];exact Er hh
  | .bad,h,k,hh=>by simp only[C4] at hh;simp only[Fh];exact Er hh
theorem LV:∀{ds:List D} {h:Hp} {k:List D->Hp->Prop},(FV h ds).all (λ x=>k x.1 x.2)->Qv h ds k
  | [],h,k,hh=>by simp only[FV] at hh;simp only[Qv];exact hh.2
  | d::r,h,k,hh=>by
    simp only[FV] at hh;simp only[Qv];exact RD (Rs.Cg (λ x h1=>LV (Rs.Cg (λ y h2=>h2.2) (Rs.all_bind h1))) (Rs.all_bind hh))
end
def Aai(P:Program)(h:Hp)(t:TypeId)(x:D):Rs D:=
 match CG P t with
 | some ti=>match ti.k,x with
   | .string,.p (.str l)=> .ret True (.p (.int .i64 l.length))
   | .slice _,.p (.sl es)=> .ret True (.p (.int .i64 es.length))
   | .slice _,.cl es=> .ret True (.p (.int .i64 es.length))
   | .slice _,.ref id _ len N=> .ret (Abh h id N) (.p (.int .i64 len))
   | .slice _,.Dt _ n=> .ret True (.p (.int .i64 n))
   | .slice _,.nr _ _ len _=> .ret True (.p (.int .i64 len))
   | .array n _,_=> .ret True (.p (.int .i64 n))
   | _,_=> .fail
 | none=> .fail
theorem Y9{P:Program}{h:Hp}{t:TypeId}{x:D}{k:D->Prop}(hh:(Aai P h t x).all k):Akk P h t x k:=by
 unfold Aai at hh;unfold Akk;split at hh
 case h_2=>exact hh.elim
 try simp only[*]
 split at hh
 . first | exact hh.2 | (simp only[*];exact hh.2)
 . first | exact hh.2 | (simp only[*];exact hh.2)
 . first | exact hh.2 | (simp only[*];exact hh.2)
 . first | exact hh | (simp only[*];exact hh)
 . first | exact hh.2 | (simp only[*];exact hh.2)
 . first | exact hh.2 | (simp only[*];exact hh.2)
 . first | exact hh.2 | (simp only[*];exact hh.2)
 . exact hh.elim
def Nc(P:Program)(h:Hp)(t:TypeId)(s x:D):Rs (D×Hp):=
 match CG P t with
 | some ⟨_,_,.slice e,_⟩=>match CG P e with
   | some ti=>(S7 h x).bind λ ys=>match s with
     | .ref id off len N=>match get h id with
       | some (.arr e' sz es)=> .ret (JS ti.size ys/\0<ti.size/\N=es.length/\off+len<=N/\sz=ti.size)
           (.p (.int .i64 ((min len ys.length:Nat):Int)),Cy h id (.arr e' sz (es.take off++ys.take len++es.drop (off+min len ys.length))))
       | _=> .fail
     | _=> .fail
   | none=> .fail
 | _=> .fail
theorem WK{P:Program}{h:Hp}{t:TypeId}{s x:D}{k:D->Hp->Prop}(hh:(Nc P h t s x).all (λ x=>k x.1 x.2)):j3 P h t s x k:=by
 unfold Nc at hh;unfold j3;split at hh
 case h_2=>exact hh.elim
 rename_i h1;rw[h1];simp only;split at hh
 case h_2=>exact hh.elim
 rename_i ti h2;rw[h2];simp only;refine VK (λ ys hy=>?_) (YF (Rs.all_bind hh));split at hy
 case h_2=>exact hy.elim
 split at hy
 case h_2=>exact hy.elim
 obtain ⟨⟨g1,g2,g3,g4,g5⟩,g6⟩:=hy;rename_i h3;exact ⟨λ y hy=>g1 y hy,g2,by simp only[h3];exact ⟨g3,g4,g5,g6⟩⟩
def E9(P:Program)(st:St)(q:Nat)(b:Builtin)(ts:Array TypeId)(args:List D):Rs (D×Hp):=
 match b,args with
 | .len,[x]=>match ts[0]? with
   | some t=>(Aai P st.hp t x).bind λ d=> .ret True (d,st.hp)
   | none=> .fail
 | .append,[s,x]=>match ts[0]?,ts[1]? with
   | some t,some t2=>UM P st.hp q t t2 s x
   | _,_=> .fail
 | .copy,[s,x]=>match ts[0]?,ts[1]? with
   | some t,some _=>Nc P st.hp t s x
   | _,_=> .fail
 | .min,[.p (.int k1 x),.p (.int k2 y)]=> .ret (k1=k2) (.p (.int k1 (if y<x then y else x)),st.hp)
 | .max,[.p (.int k1 x),.p (.int k2 y)]=> .ret (k1=k2) (.p (.int k1 (if x<y then y else x)),st.hp)
 | _,_=> .fail
theorem LS{P:Program}{st:St}{q:Nat}{b:Builtin}{ts:Array TypeId}{args:List D}{k:D->Hp->Prop}(hh:(E9 P st q b ts args).all (λ x=>k x.1 x.2)):
   Ng P st q b ts args k:=by
 unfold E9 at hh;unfold Ng;split at hh
 . split at hh
   . first | exact Y9 (Rs.Cg (λ x hx=>hx.2) (Rs.all_bind hh)) | (simp only[*];exact Y9 (Rs.Cg (λ x hx=>hx.2) (Rs.all_bind hh)))
   . exact hh.elim
 . split at hh
   . first | exact l7 hh | (simp only[*];exact l7 hh)
   . exact hh.elim
 . split at hh
   . first | exact WK hh | (simp only[*];exact WK hh)
   . exact hh.elim
 . exact hh
 . exact hh
 . exact hh.elim
end Go.Am
namespace Go.Am
open Go
mutual
def D.D8 (ρ:Nat->Option Nat):D->D
  | .p x=> .p x
  | .agg cs=> .agg (Hz ρ cs)
  | .Dr cs=> .Dr (Hz ρ cs)
  | .cl es=> .cl es
  | .cz es=> .cz es
  | .ref id off len N=>match ρ id with | some j=> .ref j off len N | none=> .bad
  | .ptr id off=>match ρ id with | some j=> .ptr j off | none=> .bad
  | .pe cs=> .pe cs
  | .ea id i c N=>match ρ id with | some j=> .ea j i c N | none=> .bad
  | .fn f cap=> .fn f (Hz ρ cap)
  | .np=> .np
  | .mv id=>match ρ id with | some j=> .mv j | none=> .bad
  | .Dt id n=>match ρ id with | some j=> .Dt j n | none=> .bad
  | .MG id i n=>match ρ id with | some j=> .MG j i n | none=> .bad
  | .nr id i len k=>match ρ id with | some j=> .nr j i len k | none=> .bad
  | .Sq=> .Sq
  | .bad=> .bad
def Hz (ρ:Nat->Option Nat):List D->List D
  | []=>[]
  | d::r=>D.D8 ρ d::Hz ρ r
end
def AO.D8(ρ:Nat->Option Nat):AO->AO
 | .box cs t=> .box (Hz ρ cs) t
 | o=>o
mutual
def D.ids:D->List Nat
  | .ref id _ _ _ | .ptr id _ | .ea id _ _ _ | .mv id | .Dt id _ | .MG id _ _ | .nr id _ _ _=>[id]
  | .agg cs | .Dr cs | .fn _ cs=>Du cs
  | _=>[]
def Du:List D->List Nat
  | []=>[]
  | d::r=>D.ids d++Du r
end
def Fy(T:List Nat):List Nat->List Nat
 | []=>T
 | i::r=>if i∈T then Fy T r else Fy (T++[i]) r
def AO.ids:AO->List Nat
 | .box cs _=>Du cs
 | _=>[]
def IN(h:Hp):List Nat->List Nat
 | []=>[]
 | i::r=>(match get h i with | some o=>o.ids | none=>[])++IN h r
def ghost(h:Hp)(id:Nat):List Nat:=match get h id with
 | some (.FY _ _)=>[id]
 | _=>[]
def Rr(h:Hp):List Nat:=ghost h base++(ghost h (base+1)++(ghost h (base+2)++ghost h (base+3)))
def DJ(h:Hp)(ids:List Nat):List Nat:=
 let t0:=Fy [] ids
 let t1:=Fy t0 (IN h t0)
 Fy (Fy t1 (IN h t1)) (Rr h)
def idx:List Nat->Nat->Nat->Option Nat
 | [],_,_=>none
 | x::r,k,id=>if x=id then some k else idx r (k+1) id
def sub(h:Hp)(ρ:Nat->Option Nat):Nat->List Nat->Hp
 | _,[]=>[]
 | k,id::r=>match get h id with
   | some o=>(k,o.D8 ρ)::sub h ρ (k+1) r
   | none=>sub h ρ (k+1) r
def back(T:List Nat)(q j:Nat):Option Nat:=if base<=j then T[j - base]? else some (10000*(j+1)+q)
def merge(T:List Nat)(q:Nat)(h:Hp):Hp->Hp
 | []=>h
 | (j,o)::r=>match back T q j with
   | some id=>Cy (merge T q h r) id (o.D8 (back T q))
   | none=>merge T q h r
def fresh(q:Nat)(h:Hp):Hp->Prop
 | []=>True
 | (j,_)::r=>(base<=j∨get h (10000*(j+1)+q)=none)/\fresh q h r
def Enters(P:Program)(f:FuncId):Prop:=∀args w,(callFunc f args).run P w= .ok (.enter f args) w
def Aov(P:Program)(f:FuncId)(vs:Array Value)(w:World)(Ayr:Ending->World->Prop):Prop:=
 ((callFunc f vs).run P w= .ok (.enter f vs) w/\Calls P f vs w Ayr)∨∃v w',(callFunc f vs).run P w= .ok (.value v) w'/\Ayr (.returned v) w'
theorem Aov.mono{P:Program}{f:FuncId}{vs:Array Value}{w:World}{Q Q':Ending->World->Prop}(h:Aov P f vs w Q)(hq:∀e w',Q e w'->Q' e w'):Aov P f vs w Q':=by
 rcases h with ⟨h1,h2⟩ | ⟨v,w',h1,h2⟩
 . exact .inl ⟨h1,h2.mono hq⟩
 . exact .inr ⟨v,w',h1,hq _ _ h2⟩
def B1(P:Program)(f:FuncId)(args:List D)(h:Hp)(R:Hp->D->Prop):Prop:=
 ∀(vs:Array Value) (w:World) (F:Nat->Prop) (M:Nat->Mb),HR F w M h->(∀b,F b->b<w.heap.size)->(∀id,sg h id≠none->base<=id)->Kq F w M (sg h) args vs.toList->
   Aov P f vs w λ e w'=>∃v h' r F' M',e= .returned v/\R h' r/\HR F' w' M' h'/\DR F' w' M' (sg h') r v/\Ap0 ⟨w,F,ET M h,M,sg h⟩ w' F' M' h'
@[congr] theorem ACalls_congr{P:Program}{f:FuncId}{args Asz:List D}{h h':Hp}{R:Hp->D->Prop}(e1:args=Asz)(e2:h=h'):B1 P f args h R=B1 P f Asz h' R:=by rw[e1,e2]
theorem B1.mono{P:Program}{f:FuncId}{args:List D}{h:Hp}{R R':Hp->D->Prop}(hc:B1 P f args h R)(hR:∀h' r,R h' r->R' h' r):B1 P f args h R':=
 λ vs w F M h1 h2 H9 h3=>(hc vs w F M h1 h2 H9 h3).mono λ _ _ ⟨v,h',r,F',M',h4,h5,h6⟩=>⟨v,h',r,F',M',h4,hR _ _ h5,h6⟩
theorem UT{P:Program}{f:FuncId}{e:Array Value->Sem Value}{args:List D}{h:Hp}{R:Hp->D->Prop}(Dy:∀args w,(callFunc f args).run P w=((e args).run P w).andThen λ v w'=> .ok (.value v) w')
   (hv:∀(vs:Array Value) w F M,Kq F w M (sg h) args vs.toList->∃v r,(e vs).run P w= .ok v w/\DR F w M (sg h) r v/\R h r):B1 P f args h R:=by
 intro vs w F M hHR hFl hsb hd;obtain ⟨v,r,h1,h2,h3⟩:=hv vs w F M hd;refine .inr ⟨v,w,?_,v,h,r,F,M,rfl,h3,hHR,h2,⟨rfl,rfl,rfl,Ai _,λ _ _ _=>rfl,λ _ h=>h,λ _ h=> .inl h,hFl,λ _ h=> .inl h,CX.refl _ _,hsb⟩⟩;rw[Dy,h1];rfl
def HJ(P:Program)(h:Hp)(f:FuncId)(ds:List D)(q:Nat)(k:D->Hp->Prop):Prop:=
 let T:=DJ h (Du ds)
 T.Nodup/\(T.all λ id=>(get h id).isSome)=true/\
 B1 P f (Hz (idx T base) ds) (sub h (idx T base) base T) λ h' r=>fresh q h h'/\k (r.D8 (back T q)) (merge T q h h')
def Kn(P:Program)(st:St)(o:Oper):Rs (D×Hp):=
 match o.op with
 | .call c=>match c.callee with
   | .builtin b=>E9 P st (o.dst.getD 0) b c.argTypes (c.args.toList.map (ev st))
   | _=> .fail
 | .alloc _ | .box _ _ | .store _ _ _ | .buildSlice _ _ _ | .makeSlice _ _ _ | .makeMap _ _ | .mapUpdate _ _ _ _=>Lz P st (o.dst.getD 0) o.op
 | op=>(J7 P st op).bind λ d=> .ret True (d,st.hp)
def G9(st:St)(f:Operand)(args:List Operand):Rs (FuncId×List D×Hp):=
 match ev st f with
 | .fn g cap=>(FV st.hp (args.map (ev st)++cap)).bind λ x=> .ret True (g,x.1,x.2)
 | _=> .fail
def De(o:Op):Option (Operand×List Operand):=
 match o with
 | .call c=>match c.callee with
   | .value f=>some (f,c.args.toList)
   | _=>none
 | _=>none
def Good(c:Ctx)(K:St->Prop):Act->World->Prop:=λ a w=>∃st F M,K st/\Rel c st a w F M
def Ou(P:Program)(o:Oper)(K:St->Prop)(st:St):Prop:=
 ∀c a w F M (Q:Exit->Act->World->Prop),Rel c st a w F M->o.wp P a w (Good c K) Q
def LQ(S:Prop)(P:Program)(h:Hp)(f:FuncId)(ds:List D)(q:Nat)(k:D->Hp->Prop):Prop:=
 let T:=DJ h (Du ds)
 T.Nodup/\(T.all λ id=>(get h id).isSome)=true/\
 (B1 P f (Hz (idx T base) ds) (sub h (idx T base) base T) (λ h' r=>fresh q h h'/\k (r.D8 (back T q)) (merge T q h h'))∨S)
theorem RA{S:Prop}{P:Program}{h:Hp}{f:FuncId}{ds:List D}{q:Nat}{k:D->Hp->Prop}(hh:LQ S P h f ds q k):HJ P h f ds q k∨S:=by
 obtain ⟨h1,h2,h3⟩:=hh;rcases h3 with h3 | h3
 . exact .inl ⟨h1,h2,h3⟩
 . exact .inr h3
theorem WO{S:Prop}{P:Program}{h:Hp}{f:FuncId}{ds:List D}{q:Nat}{k:D->Hp->Prop}(hh:HJ P h f ds q k):LQ S P h f ds q k:=⟨hh.1,hh.2.1,.inl hh.2.2⟩
theorem LP{X:Prop}{P:Program}{h:Hp}{f:FuncId}{ds:List D}{q:Nat}{k:D->Hp->Prop}:LQ (false=true/\X) P h f ds q k=HJ P h f ds q k:=
 propext ⟨λ hh=>(RA hh).elim id λ h=>(AJ h.1).elim,WO⟩
def QK(P:Program)(s:Bool)(o:Oper)(K:St->Prop)(st:St):Prop:=
 match De o.op with
 | some (f,args)=>(G9 st f args).JO (s=true/\Ou P o K st) λ x=>LQ (s=true/\Ou P o K st) P x.2.2 x.1 x.2.1 (o.dst.getD 0) λ d h'=>K (({st with hp:=h'}:St).put o.dst d)
 | none=>(Kn P st o).JO (s=true/\Ou P o K st) λ x=>K (({st with hp:=x.2}:St).put o.dst x.1)
def FT(st:St)(ops:List Oper)(g:Option (Nat×Bool))(yes no:Prop):Prop:=
 match g with
 | none=>yes
 | some (j,want)=>match ((ops[j]?).bind (·.dst)).bind (get st.env) with
   | some (.p (.bool b))=>WT (b==want) yes no
   | some (.Dr [])=>no
   | _=>False
def U3(P:Program)(s:Bool)(ops:List Oper):List Oper->(St->Prop)->St->Prop
 | [],K,st=>K st
 | o::rest,K,st=>FT st ops o.guard (QK P s o (U3 P s ops rest K) st) (U3 P s ops rest K (st.put o.dst (.Dr [])))
def thn(K:St->Prop)(Q:Exit->St->Prop):Exit->St->Prop
 | .normal,st=>K st
 | e,st=>Q e st
def DK(id:Nat)(Q:Exit->St->Prop):Exit->St->Prop
 | .exit Pk,st=>if Pk=id then Q .normal st else Q (.exit Pk) st
 | e,st=>Q e st
def Wk(st st1:St):Prop:=∀c a w F M,Rel c st a w F M->∃F' M',Rel c st1 a w F' M'
def Ys(body:(Exit->St->Prop)->St->Prop)(Q:Exit->St->Prop):Nat->St->Prop
 | 0,_=>False
 | n+1,st=>∃st1,Wk st st1/\body (thn (Ys body Q n) Q) st1
def QC(c:Ctx)(Q:Exit->St->Prop):Exit->Act->World->Prop:=λ e a w=>∃st F M,Q e st/\Rel c st a w F M
def Avn(P:Program)(x:Code)(Q:Exit->St->Prop)(st:St):Prop:=
 ∀c a w F M,Rel c st a w F M->(Code.scope x).wp P (QC c Q) a w
def Ayy(P:Program)(id:Nat)(ops:Array Oper)(Q:Exit->St->Prop)(st:St):Prop:=
 ∀c a w F M,Rel c st a w F M->(Code.region id ops true).wp P (QC c Q) a w
def wA(P:Program):Code->(Exit->St->Prop)->St->Prop
 | .skip,Q,st=>Q .normal st
 | .label _,Q,st=>Q .normal st
 | .ret,Q,st=>Q .ret st
 | .exit id,Q,st=>Q (.exit id) st
 | .goto l,Q,st=>Q (.goto l) st
 | .seq x y,Q,st=>wA P x (thn (wA P y Q) Q) st
 | .cond c x y,Q,st=>match ev st c with
   | .p (.bool b)=>WT b (wA P x Q st) (wA P y Q st)
   | _=>False
 | .block id x,Q,st=>wA P x (DK id Q) st
 | .loop x,Q,st=>∃n,Ys (wA P x) Q n st
 | .scope x,Q,st=>Avn P x Q st
 | .region id ops draw,Q,st=>(draw=false/\U3 P true ops.toList ops.toList (Q .normal) st)∨(draw=true/\Ayy P id ops Q st)
 | _,_,_=>False
end Go.Am
namespace Go.Am
open Go
section
variable {P:Program} {c:Ctx} {st:St} {a:Act} {w:World} {F:Nat->Prop} {M:Nat->Mb}
theorem Jv(ρ:Nat->Option Nat):∀(cs:List D) (i:Nat),(Hz ρ cs)[i]?=(cs[i]?).map (D.D8 ρ)
 | [],i=>by simp[Hz]
 | d::r,0=>by simp[Hz]
 | d::r,i+1=>by simp[Hz,Jv ρ r i]
theorem GZ(ρ:Nat->Option Nat):∀cs:List D,(Hz ρ cs).length=cs.length
 | []=>rfl
 | d::r=>by simp[Hz,GZ ρ r]
theorem DR.D8{ρ:Nat->Option Nat}{M':Nat->Mb}{s s':Nat->Option Sg}{d:D}{v:Value}(h:DR F w M s d v)
   (hρ:∀id j,ρ id=some j->s id≠none->M' j=M id/\s' j=s id):DR F w M' s' (d.D8 ρ) v:=by
 induction h with
 | p h=>simp only[D.D8];exact .p h
 | agg cs vs hl _ ih=>
   simp only[D.D8];refine .agg _ vs (by rw[GZ];exact hl) λ i e he=>?_;rw[Jv] at he;cases hc:cs[i]? with
   | none=>rw[hc] at he;cases he
   | some q=>rw[hc] at he;cases he;exact ih i q hc
 | Dr cs vs hl _ ih=>
   simp only[D.D8];refine .Dr _ vs (by rw[GZ];exact hl) λ i e he=>?_;rw[Jv] at he;cases hc:cs[i]? with
   | none=>rw[hc] at he;cases he
   | some q=>rw[hc] at he;cases he;exact ih i q hc
 | cl es a h hn=>simp only[D.D8];exact .cl es a h hn
 | cz es a h=>simp only[D.D8];exact .cz es a h
 | ref id off len N sz n v hs hN hv h2=>
   simp only[D.D8];cases hj:ρ id with
   | none=>exact .bad _
   | some j=>
     obtain ⟨h3,h4⟩:=hρ id j hj (by rw[hs];simp);exact .ref j off len N sz n v (by rw[h4,hs]) hN hv (λ e=>by rw[h3];exact h2 e)
 | ptr id off hs=>
   simp only[D.D8];cases hj:ρ id with
   | none=>exact .bad _
   | some j=>
     obtain ⟨h3,h4⟩:=hρ id j hj (by rw[hs];simp);have:=DR.ptr (F:=F) (w:=w) (M:=M') (s:=s') j off (by rw[h4,hs]);rwa[h3] at this
 | pe cs b off row t fr hF hh hi hp=>simp only[D.D8];exact .pe cs b off row t fr hF hh hi hp
 | ea id i q N sz n v hs hN hv h2=>
   simp only[D.D8];cases hj:ρ id with
   | none=>exact .bad _
   | some j=>
     obtain ⟨h3,h4⟩:=hρ id j hj (by rw[hs];simp);exact .ea j i q N sz n v (by rw[h4,hs]) hN hv (λ e=>by rw[h3];exact h2 e)
 | fn f cap vs hl _ ih=>
   simp only[D.D8];refine .fn f _ vs (by rw[GZ];exact hl) λ i e he=>?_;rw[Jv] at he;cases hc:cap[i]? with
   | none=>rw[hc] at he;cases he
   | some q=>rw[hc] at he;cases he;exact ih i q hc
 | np=>simp only[D.D8];exact .np
 | mv id h1=>
   simp only[D.D8];cases hj:ρ id with
   | none=>exact .bad _
   | some j=>
     obtain ⟨h3,h4⟩:=hρ id j hj (by rw[h1];simp);rw[<-h3];exact .mv j (by rw[h4,h1])
 | Dt id n sz m k v h1 hN hv h2=>
   simp only[D.D8];cases hj:ρ id with
   | none=>exact .bad _
   | some j=>
     obtain ⟨h3,h4⟩:=hρ id j hj (by rw[h1];simp);exact .Dt j n sz m k v (by rw[h4,h1]) hN hv (λ e=>by rw[h3];exact h2 e)
 | MG id i n sz m k b h1 hN hi h2=>
   simp only[D.D8];cases hj:ρ id with
   | none=>exact .bad _
   | some j=>
     obtain ⟨h3,h4⟩:=hρ id j hj (by rw[h1];simp);exact .MG j i n sz m k b (by rw[h4,h1]) hN hi (λ e=>by rw[h3];exact h2 e)
 | nr id i len q sz m k v h1 hN hv h2=>
   simp only[D.D8];cases hj:ρ id with
   | none=>exact .bad _
   | some j=>
     obtain ⟨h3,h4⟩:=hρ id j hj (by rw[h1];simp);exact .nr j i len q sz m k v (by rw[h4,h1]) hN hv (λ e=>by rw[h3];exact h2 e)
 | Sq v h=>simp only[D.D8];exact .Sq v h
 | bad v=>simp only[D.D8];exact .bad v
theorem Kq.D8{ρ:Nat->Option Nat}{M':Nat->Mb}{s s':Nat->Option Sg}{ds:List D}{vs:List Value}(h:Kq F w M s ds vs)
   (hρ:∀id j,ρ id=some j->s id≠none->M' j=M id/\s' j=s id):Kq F w M' s' (Hz ρ ds) vs:=
 ⟨by rw[GZ];exact h.1,λ i d hd=>by
   rw[Jv] at hd;cases hc:ds[i]? with
   | none=>rw[hc] at hd;cases hd
   | some q=>rw[hc] at hd;cases hd;exact (h.2 i q hc).D8 hρ⟩
theorem AO.Aa5(ρ:Nat->Option Nat)(o:AO):(o.D8 ρ).sg=o.sg:=by cases o<;>rfl
theorem AO.GI(ρ:Nat->Option Nat)(o:AO)(m:Mb)(b:Nat):(o.D8 ρ).Gm m b↔o.Gm m b:=by cases o<;>exact Iff.rfl
theorem Atq(ρ:Nat->Option Nat)(d:D):(d.D8 ρ).Vf=d.Vf:=by
 cases d with
 | ref id off len N=>simp only[D.D8];cases ρ id<;>rfl
 | ptr id off=>simp only[D.D8];cases ρ id<;>rfl
 | ea id i c N=>simp only[D.D8];cases ρ id<;>rfl
 | mv id=>simp only[D.D8];cases ρ id<;>rfl
 | Dt id n=>simp only[D.D8];cases ρ id<;>rfl
 | MG id i n=>simp only[D.D8];cases ρ id<;>rfl
 | nr id i n k=>simp only[D.D8];cases ρ id<;>rfl
 | _=>rfl
theorem Ac8(ρ:Nat->Option Nat):∀cs:List D,(Hz ρ cs).any D.Vf=cs.any D.Vf
 | []=>rfl
 | d::r=>by simp only[Hz,List.any_cons,Atq,Ac8 ρ r]
theorem Atr{ρ:Nat->Option Nat}{d:D}(h:d.D8 ρ= .cl []):d= .cl []:=by
 cases d with
 | ref id off len N=>simp only[D.D8] at h;cases hr:ρ id<;>rw[hr] at h<;>cases h
 | ptr id off=>simp only[D.D8] at h;cases hr:ρ id<;>rw[hr] at h<;>cases h
 | ea id i c N=>simp only[D.D8] at h;cases hr:ρ id<;>rw[hr] at h<;>cases h
 | mv id=>simp only[D.D8] at h;cases hr:ρ id<;>rw[hr] at h<;>cases h
 | Dt id n=>simp only[D.D8] at h;cases hr:ρ id<;>rw[hr] at h<;>cases h
 | MG id i n=>simp only[D.D8] at h;cases hr:ρ id<;>rw[hr] at h<;>cases h
 | nr id i n k=>simp only[D.D8] at h;cases hr:ρ id<;>rw[hr] at h<;>cases h
 | cl es=>simpa only[D.D8] using h
 | _=>simp[D.D8] at h
theorem VA.D8{ρ:Nat->Option Nat}{M':Nat->Mb}{s s':Nat->Option Sg}{m:Mb}{o:AO}(h:VA F w M s m o)
   (hρ:∀id j,ρ id=some j->s id≠none->M' j=M id/\s' j=s id):VA F w M' s' m (o.D8 ρ):=by
 cases o with
 | box cs ty=>
   obtain ⟨h1,row,t,h2,h3,h4⟩:=h;refine ⟨h1,row,t,h2,by rw[GZ];exact h3,λ j d hd=>?_,λ h5 h6 j hj=>?_⟩
   . rw[Jv] at hd;cases hc:cs[j]? with
     | none=>rw[hc] at hd;cases hd
     | some q=>rw[hc] at hd;cases hd;exact ⟨(h4.1 j q hc).1.D8 hρ,(h4.1 j q hc).2⟩
   . refine h4.2 h5 (by rwa[Ac8] at h6) j ?_;rw[Jv] at hj;cases hc:cs[j]? with
     | none=>rw[hc] at hj;cases hj
     | some q=>
       rw[hc] at hj;simp only[Bm,An] at hj;rw[Atr hj]
 | arr t sz es=>exact h
 | M3 sz es=>exact h
 | iter l pos=>exact h
 | FY g cs=>exact h
 | Fi s=>exact h
 | mp l=>exact h
 | Dp t e sz k rows hole=>exact h
theorem JE:∀(T:List Nat) (k id j:Nat),idx T k id=some j->∃i,j=k+i/\T[i]?=some id
 | [],k,id,j,h=>by simp[idx] at h
 | x::r,k,id,j,h=>by
   simp only[idx] at h;split at h
   . rename_i e;cases h;exact ⟨0,by omega,by simp[e]⟩
   . obtain ⟨i,h1,h2⟩:=JE r (k+1) id j h;exact ⟨i+1,by omega,by simpa using h2⟩
theorem Acy(h:Hp)(ρ:Nat->Option Nat):∀(T:List Nat) (k j:Nat),get (sub h ρ k T) j=if k<=j then ((T[j - k]?).bind (get h)).map (AO.D8 ρ) else none
 | [],k,j=>by simp[sub,get]
 | id::r,k,j=>by
   have ih:=Acy h ρ r (k+1) j;by_cases e:k=j
   . subst e;simp only[sub,Ai,AP,Nat.sub_self,AK,Aa];cases ho:get h id with
     | some o=>simp[Ct]
     | none=>rw[ih,if_neg (by omega)];simp
   . have:get (sub h ρ k (id::r)) j=get (sub h ρ (k+1) r) j:=by
       simp only[sub];cases ho:get h id with
       | some o=>rw[Ct,if_neg e]
       | none=>rfl
     rw[this,ih];by_cases h2:k+1<=j
     . rw[if_pos h2,if_pos (by omega),show j - k=(j - (k+1))+1 from by omega,List.getElem?_cons_succ]
     . rw[if_neg h2,if_neg (by omega)]
theorem VZ{T:List Nat}(h:T.Nodup){i j x:Nat}(hi:T[i]?=some x)(hj:T[j]?=some x):i=j:=by
 have h1:=(Ao.1 hi);have h2:=(Ao.1 hj);exact (List.getElem_inj (h₀:=h1.1) (h₁:=h2.1) h).1 (h1.2.trans h2.2.symm)
theorem Ua{q:Nat}{h:Hp}:∀{h':Hp},fresh q h h'->∀j o,get h' j=some o->base<=j∨get h (10000*(j+1)+q)=none
 | [],_,j,o,hg=>by simp[get] at hg
 | (k,x)::r,hf,j,o,hg=>by
   rw[Ct] at hg;split at hg
   . rename_i e;subst e;exact hf.1
   . exact Ua hf.2 j o hg
theorem get_merge{T:List Nat}{q:Nat}{h:Hp}:∀{h':Hp} (id:Nat),
   (∃j o,get h' j=some o/\back T q j=some id/\get (merge T q h h') id=some (o.D8 (back T q)))∨
   ((∀j o,get h' j=some o->back T q j≠some id)/\get (merge T q h h') id=get h id)∨¬(∀i j,back T q i=some id->back T q j=some id->(∃o,get h' i=some o)->(∃o,get h' j=some o)->i=j)
 | [],id=> .inr (.inl ⟨λ j o hg=>by simp[get] at hg,rfl⟩)
 | (k,x)::r,id=>by
   by_cases OS:∀i j,back T q i=some id->back T q j=some id->(∃o,get ((k,x)::r) i=some o)->(∃o,get ((k,x)::r) j=some o)->i=j
   case neg=>exact .inr (.inr OS)
   by_cases hb:back T q k=some id
   . refine .inl ⟨k,x,by simp[Ct],hb,?_⟩;simp only[merge,hb,CS,AP]
   . have Zo:get (merge T q h ((k,x)::r)) id=get (merge T q h r) id:=by
       simp only[merge];cases hk:back T q k with
       | none=>rfl
       | some Pk=>rw[CS,if_neg (λ e=>hb (by rw[hk,e]))]
     have Ml:∀i,(∃o,get r i=some o)->back T q i=some id->∃o,get ((k,x)::r) i=some o:=λ i ⟨o,ho⟩ hbi=>by
       rw[Ct];by_cases e:k=i
       . subst e;exact (hb hbi).elim
       . rw[if_neg e];exact ⟨o,ho⟩
     rcases get_merge (T:=T) (q:=q) (h:=h) (h':=r) id with ⟨j,o,h1,h2,h3⟩ | ⟨h1,h2⟩ | h1
     . refine .inl ⟨j,o,?_,h2,by rw[Zo];exact h3⟩;rw[Ct,if_neg (λ e=>by subst e;exact hb h2)];exact h1
     . refine .inr (.inl ⟨λ j o hg=>?_,by rw[Zo];exact h2⟩);rw[Ct] at hg;split at hg
       . rename_i e;subst e;exact hb
       . exact h1 j o hg
     . exact (h1 λ i j hi hj hoi hoj=>OS i j hi hj (Ml i hoi hi) (Ml j hoj hj)).elim
theorem Si(hr:Rel c st a w F M){f:FuncId}{ds:List D}{q:Nat}{k:D->Hp->Prop}{vs:Array Value}(hd:Kq F w M (sg st.hp) ds vs.toList)(h:HJ P st.hp f ds q k):
   Aov P f vs w λ e w'=>∃v d h' F' M',e= .returned v/\k d h'/\Rel c {st with hp:=h'} a w' F' M'/\DR F' w' M' (sg h') d v:=by
 unfold HJ at h;generalize DJ st.hp (Du ds)=T at h;obtain ⟨hT,Dw,MT⟩:=h;have Oi:∀id,id∈T->∃o,get st.hp id=some o:=λ id hid=>by
   have:=AB.1 Dw id hid;exact Bu.1 this
 have Acr:∀j,get (sub st.hp (idx T base) base T) j=if base<=j then ((T[j - base]?).bind (get st.hp)).map (AO.D8 (idx T base)) else none:=Acy _ _ T base
 have Akv:∀i id,T[i]?=some id->sg (sub st.hp (idx T base) base T) (base+i)=sg st.hp id:=λ i id hi=>by
   unfold sg;rw[Acr,if_pos (Nat.le_add_right _ _),A3,hi];cases ho:get st.hp id with
   | none=>simp[ho]
   | some o=>simp[ho,AO.Aa5]
 have hρ:∀id j,idx T base id=some j->sg st.hp id≠none->(λ j=>M (T.getD (j - base) 0)) j=M id/\sg (sub st.hp (idx T base) base T) j=sg st.hp id:=λ id j hj _=>by
   obtain ⟨i,rfl,hi⟩:=JE T base id j hj;refine ⟨?_,Akv i id hi⟩;simp only[A3,Ay,hi,A4]
 have Aay:∀b,ET (λ j=>M (T.getD (j - base) 0)) (sub st.hp (idx T base) base T) b->∃(i id:Nat) (o:AO),T[i]?=some id/\get st.hp id=some o/\o.Gm (M id) b:=by
   rintro b ⟨j,o,hj,CN⟩;rw[Acr] at hj;split at hj
   case isFalse=>cases hj
   cases hi:T[j - base]? with
   | none=>rw[hi] at hj;simp at hj
   | some id=>
     rw[hi] at hj;simp only[Aa] at hj;cases ho:get st.hp id with
     | none=>rw[ho] at hj;simp at hj
     | some o2=>
       rw[ho] at hj;simp only[Bm,An] at hj;subst hj;have hM:M (T.getD (j - base) 0)=M id:=by simp only[Ay,hi,A4]
       simp only[hM,AO.GI] at CN ⊢;exact ⟨j - base,id,o2,hi,ho,CN⟩
 have hHR:HR F w (λ j=>M (T.getD (j - base) 0)) (sub st.hp (idx T base) base T):=by
   have key:∀j o,get (sub st.hp (idx T base) base T) j=some o->∃id o2,T[j - base]?=some id/\base<=j/\get st.hp id=some o2/\o=o2.D8 (idx T base)/\M (T.getD (j - base) 0)=M id:=by
     intro j o hj;rw[Acr] at hj;split at hj
     case isFalse=>cases hj
     rename_i hle;cases hi:T[j - base]? with
     | none=>rw[hi] at hj;simp at hj
     | some id=>
       rw[hi] at hj;simp only[Aa] at hj;cases ho:get st.hp id with
       | none=>rw[ho] at hj;simp at hj
       | some o2=>
         rw[ho] at hj;simp only[Bm,An] at hj;exact ⟨id,o2,rfl,hle,ho,hj.symm,by simp only[Ay,hi,A4]⟩
   constructor
   . intro j o hj;obtain ⟨id,o2,_,_,ho,rfl,hM⟩:=key j o hj;simp only[hM];exact (hr.heap.obj id o2 ho).D8 hρ
   . intro j o j' o' b hj Hc CN El;obtain ⟨id,o2,hi,hle,ho,rfl,hM⟩:=key j o hj;obtain ⟨Pk,o2',T2,Axo,NH,rfl,hM'⟩:=key j' o' Hc;simp only[hM,hM',AO.GI] at CN El;have:=hr.heap.inj id o2 Pk o2' b ho NH CN El;subst this;have:=VZ hT hi T2;omega
 refine (MT vs w F _ hHR hr.CR.Fl (λ id hid=>by
   by_cases e:base<=id
   . exact e
   . exact (hid (by unfold sg;rw[Acr,if_neg e];rfl)).elim) (hd.D8 hρ)).mono ?_
 rintro e w' ⟨v,h',r,F',M',rfl,⟨Ab1,hk⟩,Vq,Auy,hK⟩;refine ⟨v,D.D8 (back T q) r,merge T q st.hp h',F',?_⟩;have G6:∀j id,back T q j=some id->(∃o,get h' j=some o)->(base<=j/\T[j - base]?=some id)∨(j<base/\get st.hp id=none):=by
   intro j id hb ⟨o,ho⟩;unfold back at hb;by_cases e1:base<=j
   . rw[if_pos e1] at hb;exact .inl ⟨e1,hb⟩
   . rw[if_neg e1] at hb;simp only[An] at hb;refine .inr ⟨by omega,?_⟩;have:=(Ua Ab1 j o ho).resolve_left e1;rwa[hb] at this
 have OS:∀id i j,back T q i=some id->back T q j=some id->(∃o,get h' i=some o)->(∃o,get h' j=some o)->i=j:=by
   intro id i j hi hj hoi hoj;have h1:=G6 i id hi hoi;have h2:=G6 j id hj hoj;rcases h1 with ⟨h1,h3⟩ | ⟨h1,h3⟩<;>rcases h2 with ⟨h2,h4⟩ | ⟨h2,h4⟩
   . have:=VZ hT h3 h4;omega
   . obtain ⟨o,ho⟩:=Oi id (AR h3);rw[h4] at ho;cases ho
   . obtain ⟨o,ho⟩:=Oi id (AR h4);rw[h3] at ho;cases ho
   . unfold back at hi hj;rw[if_neg (by omega)] at hi hj;simp only[An] at hi hj;omega
 classical
 let M2:Nat->Mb:=λ id=>if hx:∃j,(∃o,get h' j=some o)/\back T q j=some id then M' hx.choose else M id
 have hM2:∀j id,(∃o,get h' j=some o)->back T q j=some id->M2 id=M' j:=by
   intro j id ho hb;have hx:∃j,(∃o,get h' j=some o)/\back T q j=some id:=⟨j,ho,hb⟩;simp only[M2,dif_pos hx];rw[OS id _ _ hx.choose_spec.2 hb hx.choose_spec.1 ho]
 have Ab3:∀id,(∀j o,get h' j=some o->back T q j≠some id)->M2 id=M id:=by
   intro id N5;simp only[M2];rw[dif_neg];rintro ⟨j,⟨o,ho⟩,hb⟩;exact N5 j o ho hb
 have Cu:∀id,(∃j o,get h' j=some o/\back T q j=some id/\get (merge T q st.hp h') id=some (o.D8 (back T q)))∨
     ((∀j o,get h' j=some o->back T q j≠some id)/\get (merge T q st.hp h') id=get st.hp id):=by
   intro id;rcases get_merge (T:=T) (q:=q) (h:=st.hp) (h':=h') id with h1 | h1 | h1
   . exact .inl h1
   . exact .inr h1
   . exact (h1 (OS id)).elim
 have hσ:∀j id,back T q j=some id->sg h' j≠none->M2 id=M' j/\sg (merge T q st.hp h') id=sg h' j:=by
   intro j id hb hs;have ho:∃o,get h' j=some o:=by
     cases hg:get h' j with
     | none=>exact (hs (by simp[sg,hg])).elim
     | some o=>exact ⟨o,rfl⟩
   refine ⟨hM2 j id ho hb,?_⟩;rcases Cu id with ⟨j2,o2,h1,h2,h3⟩ | ⟨h1,_⟩
   . have:=OS id j j2 hb h2 ho ⟨o2,h1⟩;subst this;simp[sg,h1,h3,AO.Aa5]
   . obtain ⟨o,ho⟩:=ho;exact (h1 j o ho hb).elim
 have Axd:∀id,(∃o,get st.hp id=some o)->id∉T->(∀j o,get h' j=some o->back T q j≠some id):=by
   intro id ⟨o,ho⟩ hid j o2 hj hb;rcases G6 j id hb ⟨o2,hj⟩ with ⟨_,h1⟩ | ⟨_,h1⟩
   . exact hid (AR h1)
   . rw[h1] at ho;cases ho
 have Akw:∀id o,get st.hp id=some o->id∉T->get (merge T q st.hp h') id=some o/\M2 id=M id:=by
   intro id o ho hid;have N5:=Axd id ⟨o,ho⟩ hid;rcases Cu id with ⟨j,o2,h1,h2,h3⟩ | ⟨_,h2⟩
   . exact (N5 j o2 h1 h2).elim
   . exact ⟨by rw[h2,ho],Ab3 id N5⟩
 have Aug:CX M M2 (sg st.hp) (sg (merge T q st.hp h')):=by
   have hK2:=hK.W5;simp only at hK2;refine ⟨λ id hid=>?_,λ id sz n hid=>?_,λ id sz n kk hid=>?_⟩
   . by_cases E0:id∈T
     . obtain ⟨i,hi⟩:=A9.1 E0;obtain ⟨h1,h2⟩:=hK2.1 (base+i) (by rw[Akv i id hi];exact hid);have hb:back T q (base+i)=some id:=by unfold back;rw[if_pos (Nat.le_add_right _ _),A3];exact hi
       obtain ⟨h3,h4⟩:=hσ _ _ hb (by rw[h1];simp);refine ⟨by rw[h4,h1],?_⟩;rw[h3,h2];simp only[A3,Ay,hi,A4]
     . obtain ⟨o,ho,hso⟩:=Ajb hid;obtain ⟨h1,h2⟩:=Akw id _ ho E0;exact ⟨by simp[sg,h1,hso],by rw[h2]⟩
   . by_cases E0:id∈T
     . obtain ⟨i,hi⟩:=A9.1 E0;obtain ⟨n',h1,EB,h2⟩:=hK2.2.1 (base+i) sz n (by rw[Akv i id hi];exact hid);have hb:back T q (base+i)=some id:=by unfold back;rw[if_pos (Nat.le_add_right _ _),A3];exact hi
       obtain ⟨h3,h4⟩:=hσ _ _ hb (by rw[h1];simp);refine ⟨n',by rw[h4,h1],EB,λ e=>?_⟩;rw[h3,h2 e];simp only[A3,Ay,hi,A4]
     . have:∃o,get st.hp id=some o:=by
         cases hg:get st.hp id with
         | none=>simp[sg,hg] at hid
         | some o=>exact ⟨o,rfl⟩
       obtain ⟨o,ho⟩:=this;obtain ⟨h1,h2⟩:=Akw id o ho E0;refine ⟨n,?_,Ai _,λ _=>h2⟩;simp only[sg,h1,ho] at hid ⊢;exact hid
   . by_cases E0:id∈T
     . obtain ⟨i,hi⟩:=A9.1 E0;obtain ⟨n',k',h1,EB,Av0,h2,H9⟩:=hK2.2.2 (base+i) sz n kk (by rw[Akv i id hi];exact hid);have hb:back T q (base+i)=some id:=by unfold back;rw[if_pos (Nat.le_add_right _ _),A3];exact hi
       obtain ⟨h3,h4⟩:=hσ _ _ hb (by rw[h1];simp);refine ⟨n',k',by rw[h4,h1],EB,Av0,λ e=>?_,λ e=>?_⟩
       . rw[h3];have h5:=h2 e;simp only[A3,Ay,hi,A4] at h5;exact h5
       . rw[h3];have h5:=H9 e;simp only[A3,Ay,hi,A4] at h5;exact h5
     . have:∃o,get st.hp id=some o:=by
         cases hg:get st.hp id with
         | none=>simp[sg,hg] at hid
         | some o=>exact ⟨o,rfl⟩
       obtain ⟨o,ho⟩:=this;obtain ⟨h1,h2⟩:=Akw id o ho E0;refine ⟨n,kk,?_,Ai _,Ai _,λ _=>by rw[h2];exact ⟨rfl,rfl⟩,λ _=>by rw[h2]⟩;simp only[sg,h1,ho] at hid ⊢;exact hid
 have Rk:∀id o b,get st.hp id=some o->o.Gm (M id) b->id∉T->¬ET (λ j=>M (T.getD (j - base) 0)) (sub st.hp (idx T base) base T) b:=by
   intro id o b ho CN hid hO;obtain ⟨i,id2,o2,h1,h2,h3⟩:=Aay _ hO;have:=hr.heap.inj id2 o2 id o b h2 ho h3 CN;subst this;exact hid (AR h1)
 have hF:∀b,F b->w'.heap[b]?=w.heap[b]?:=λ b hb=>hK.NA b (hr.CR.Fl b hb) (λ hO=>by
   obtain ⟨i,id,o,h1,h2,h3⟩:=Aay _ hO;exact hr.heap.JA ⟨id,o,h2,h3⟩ hb)
 have Bbc:∀id o b,get st.hp id=some o->o.Gm (M id) b->id∉T->¬F' b:=λ id o b ho CN hid hf=>by
   rcases hK.Fn _ hf with h1 | h1 | h1
   . exact hr.heap.JA ⟨id,o,ho,CN⟩ h1
   . exact Rk id o b ho CN hid h1
   . have:=hr.heap.lt ⟨id,o,ho,CN⟩;simp only at h1;omega
 refine ⟨M2,rfl,hk,?_,Auy.D8 hσ⟩;have Xz:∀id o,get (merge T q st.hp h') id=some o->(∀j o,get h' j=some o->back T q j≠some id)->get st.hp id=some o->id∉T:=by
   intro id o _ N5 ho E0;obtain ⟨i,hi⟩:=A9.1 E0;have hb:back T q (base+i)=some id:=by unfold back;rw[if_pos (Nat.le_add_right _ _),A3];exact hi
   have hs:sg (sub st.hp (idx T base) base T) (base+i)≠none:=by rw[Akv i id hi];simp[sg,ho]
   have:∃o,get h' (base+i)=some o:=by
     cases OR:sg (sub st.hp (idx T base) base T) (base+i) with
     | none=>exact (hs OR).elim
     | some s2=>
       cases s2 with
       | box=>
         have h1:=(hK.W5.1 _ OR).1;obtain ⟨o,hcs,_⟩:=Ajb h1;exact ⟨_,hcs⟩
       | arr sz n=>
         obtain ⟨n',h1,_⟩:=hK.W5.2.1 _ sz n OR;rcases Atn h1 with ⟨t,es,h2,_⟩ | ⟨es,h2,_⟩ | ⟨_,h2,_⟩
         . exact ⟨_,h2⟩
         . exact ⟨_,h2⟩
         . exact ⟨_,h2⟩
       | Dp sz n kk=>
         obtain ⟨n',k',h1,_⟩:=hK.W5.2.2 _ sz n kk OR;unfold sg at h1;cases hg2:get h' (base+i) with
         | none=>rw[hg2] at h1;simp at h1
         | some o3=>exact ⟨o3,rfl⟩
   obtain ⟨o2,UZ⟩:=this;exact N5 _ o2 UZ hb
 constructor
 . intro t d ht;exact (hr.env t d ht).CR hF hK.F0 Aug
 . exact hr.size
 . exact hr.defers
 . constructor
   . intro id o ho;rcases Cu id with ⟨j,o2,h1,h2,h3⟩ | ⟨h1,h2⟩
     . rw[h3] at ho;cases ho;rw[hM2 j id ⟨o2,h1⟩ h2];exact (Vq.obj j o2 h1).D8 hσ
     . have NH:get st.hp id=some o:=by rw[<-h2];exact ho
       have hid:=Xz id o ho h1 NH;rw[Ab3 id h1];exact (hr.heap.obj id o NH).CR hF hK.F0 Aug (λ b CN=>⟨hK.NA b (hr.heap.lt ⟨id,o,NH,CN⟩) (Rk id o b NH CN hid),Bbc id o b NH CN hid⟩)
   . intro id o Pk o' b ho NH CN El;have Asy:∀j oj id2 o2,get h' j=some oj->oj.Gm (M' j) b->get st.hp id2=some o2->o2.Gm (M id2) b->id2∉T->False:=by
       intro j oj id2 o2 hj Axb h2 Acn Bbi;rcases hK.own _ ⟨j,oj,hj,Axb⟩ with h3 | h3
       . exact Rk id2 o2 b h2 Acn Bbi h3
       . have:=hr.heap.lt ⟨id2,o2,h2,Acn⟩;simp only at h3;omega
     rcases Cu id with ⟨j,o2,h1,h2,h3⟩ | ⟨h1,h2⟩<;>rcases Cu Pk with ⟨j',o2',EB,H9,h3'⟩ | ⟨EB,H9⟩
     . rw[h3] at ho;rw[h3'] at NH;cases ho;cases NH;rw[hM2 j id ⟨o2,h1⟩ h2] at CN;rw[hM2 j' Pk ⟨o2',EB⟩ H9] at El;have:=Vq.inj j o2 j' o2' b h1 EB ((AO.GI _ _ _ _).1 CN) ((AO.GI _ _ _ _).1 El);subst this;rw[h2] at H9;cases H9;rfl
     . rw[h3] at ho;cases ho;have UZ:get st.hp Pk=some o':=by rw[<-H9];exact NH
       rw[hM2 j id ⟨o2,h1⟩ h2] at CN;rw[Ab3 Pk EB] at El;exact (Asy j o2 Pk o' h1 ((AO.GI _ _ _ _).1 CN) UZ El (Xz Pk o' NH EB UZ)).elim
     . rw[h3'] at NH;cases NH;have UZ:get st.hp id=some o:=by rw[<-h2];exact ho
       rw[hM2 j' Pk ⟨o2',EB⟩ H9] at El;rw[Ab3 id h1] at CN;exact (Asy j' o2' id o EB ((AO.GI _ _ _ _).1 El) UZ CN (Xz id o ho h1 UZ)).elim
     . have UZ:get st.hp id=some o:=by rw[<-h2];exact ho
       have Bb5:get st.hp Pk=some o':=by rw[<-H9];exact NH
       rw[Ab3 id h1] at CN;rw[Ab3 Pk EB] at El;exact hr.heap.inj id o Pk o' b UZ Bb5 CN El
 . have G5:=hr.CR;have Al8:∀b,ET (λ j=>M (T.getD (j - base) 0)) (sub st.hp (idx T base) base T) b->c.O0 b∨c.w0.heap.size<=b:=λ b hO=>by
     obtain ⟨i,id,o,h1,h2,h3⟩:=Aay _ hO;exact G5.own _ ⟨id,o,h2,h3⟩
   refine ⟨hK.os.trans G5.os,hK.tape.trans G5.tape,hK.output.trans G5.output,Br G5.size hK.size,λ b hb hO=>?_,λ b hb=>hK.F0 b (G5.F0 b hb),λ b hb=>?_,hK.Fl,?_,G5.W5.trans Aug,G5.s0b⟩
   . rw[hK.NA b (Nat.lt_of_lt_of_le hb G5.size) (λ hO2=>?_)]
     . exact G5.NA b hb hO
     . rcases Al8 b hO2 with h1 | h1
       . exact hO h1
       . omega
   . rcases hK.Fn b hb with h1 | h1 | h1
     . exact G5.Fn b h1
     . exact .inr (Al8 b h1)
     . exact .inr (.inr (Br G5.size h1))
   . rintro b ⟨id,o,ho,CN⟩;rcases Cu id with ⟨j,o2,h1,h2,h3⟩ | ⟨h1,h2⟩
     . rw[h3] at ho;cases ho;rw[hM2 j id ⟨o2,h1⟩ h2] at CN;rcases hK.own _ ⟨j,o2,h1,(AO.GI _ _ _ _).1 CN⟩ with h4 | h4
       . exact Al8 _ h4
       . exact .inr (Br G5.size h4)
     . have UZ:get st.hp id=some o:=by rw[<-h2];exact ho
       rw[Ab3 id h1] at CN;exact G5.own _ ⟨id,o,UZ,CN⟩
end
end Go.Am
namespace Go.Am
open Go
section
variable {P:Program} {c:Ctx} {st:St} {a:Act} {w:World} {F:Nat->Prop} {M:Nat->Mb}
theorem Rel.put(hr:Rel c st a w F M){d:D}{v:Value}(hd:DR F w M (sg st.hp) d v)(t:Option Tmp):Rel c (st.put t d) (a.put t v) w F M:=by
 cases t with
 | none=>exact hr
 | some t=>
   simp only[St.put,Act.put];by_cases ht:t<st.n
   . rw[if_pos ht];have Cr:t<a.tmps.size:=by rw[hr.size];exact ht
     refine ⟨λ q e hq=>?_,by simp[hr.size],hr.defers,hr.heap,hr.CR⟩;simp only[Ct] at hq;have EZ:=hr.size;by_cases e1:t=q
     . subst e1;simp only[AP,An] at hq;subst hq;have:(a.tmps.setIfInBounds t v).getD t undef=v:=by rw[At,Array.getElem?_setIfInBounds,if_pos rfl,if_pos Cr];rfl
       rw[this];exact hd
     . rw[if_neg e1] at hq;have:(a.tmps.setIfInBounds t v).getD q undef=a.tmps.getD q undef:=by rw[At,At,Array.getElem?_setIfInBounds,if_neg e1]
       rw[this];exact hr.env q e hq
   . rw[if_neg ht];have:a.tmps.setIfInBounds t v=a.tmps:=by
       have hge:¬t<a.tmps.size:=by rw[hr.size];exact ht
       unfold Array.setIfInBounds;rw[dif_neg hge]
     rw[this];exact hr
theorem DO(hr:Rel c st a w F M){d:D}{v:Value}(hd:DR F w M (sg st.hp) d v){k:D->Hp->Prop}(h:bor st.hp d k):
   ∃d' h' F',k d' h'/\Rel c {st with hp:=h'} a w F' M/\(∀b,F b->F' b)/\sg h'=sg st.hp/\DR F' w M (sg h') d' v:=by
 have plain:k d st.hp->∃d' h' F',k d' h'/\Rel c {st with hp:=h'} a w F' M/\(∀b,F b->F' b)/\sg h'=sg st.hp/\DR F' w M (sg h') d' v:=
   λ hk=>⟨d,st.hp,F,hk,hr,λ _ h=>h,rfl,hd⟩
 unfold bor at h;cases d with
 | ref id off len N=>
   have h2:KF st.hp (.ref id off len N) (λ x h'=>k (.p x) h'):=by
     unfold KF;simp only at h ⊢;exact h
   obtain ⟨x,h',F',hk,h3,h4,h5,h6⟩:=Lu hr hd h2;exact ⟨_,h',F',hk,h3,h4,h5,.p h6⟩
 | Dt id n=>
   have h2:KF st.hp (.Dt id n) (λ x h'=>k (.p x) h'):=by
     unfold KF;simp only at h ⊢;exact h
   obtain ⟨x,h',F',hk,h3,h4,h5,h6⟩:=Lu hr hd h2;exact ⟨_,h',F',hk,h3,h4,h5,.p h6⟩
 | cl es=>cases hd with | cl _ ad hx _=>exact ⟨_,st.hp,F,h,hr,λ _ h=>h,rfl,.p hx⟩
 | _=>exact plain h
mutual
theorem Pb:∀(d:D) {st:St} {F:Nat->Prop} {v:Value},Rel c st a w F M->DR F w M (sg st.hp) d v->∀{k:D->Hp->Prop},Fh st.hp d k->
    ∃d' h' F',k d' h'/\Rel c {st with hp:=h'} a w F' M/\(∀b,F b->F' b)/\sg h'=sg st.hp/\DR F' w M (sg h') d' v
  | .agg cs,st,F,v,hr,hd,k,h=>by
    cases hd with
    | agg _ vs hl hc=>
      simp only[Fh] at h;obtain ⟨ds,h',F',hk,h1,h2,h3,h4⟩:=J6 cs vs.toList hr ⟨by simpa using hl,λ i e he=>by have:=hc i e he;simpa [List.getD,Array.getD_eq_getD_getElem?] using this⟩ h;exact ⟨_,h',F',hk,h1,h2,h3,.agg _ vs (by have:=h4.1;simpa using this) (λ i e he=>by have:=h4.2 i e he;simpa [List.getD,Array.getD_eq_getD_getElem?] using this)⟩
  | .Dr cs,st,F,v,hr,hd,k,h=>by
    cases hd with
    | Dr _ vs hl hc=>
      simp only[Fh] at h;obtain ⟨ds,h',F',hk,h1,h2,h3,h4⟩:=J6 cs vs.toList hr ⟨by simpa using hl,λ i e he=>by have:=hc i e he;simpa [List.getD,Array.getD_eq_getD_getElem?] using this⟩ h;exact ⟨_,h',F',hk,h1,h2,h3,.Dr _ vs (by have:=h4.1;simpa using this) (λ i e he=>by have:=h4.2 i e he;simpa [List.getD,Array.getD_eq_getD_getElem?] using this)⟩
  | .p x,st,F,v,hr,hd,k,h=>DO hr hd (by simpa only[Fh] using h)
  | .cl x,st,F,v,hr,hd,k,h=>DO hr hd (by simpa only[Fh] using h)
  | .cz x,st,F,v,hr,hd,k,h=>DO hr hd (by simpa only[Fh] using h)
  | .ref _ _ _ _,st,F,v,hr,hd,k,h=>DO hr hd (by simpa only[Fh] using h)
  | .ptr _ _,st,F,v,hr,hd,k,h=>DO hr hd (by simpa only[Fh] using h)
  | .pe _,st,F,v,hr,hd,k,h=>DO hr hd (by simpa only[Fh] using h)
  | .ea _ _ _ _,st,F,v,hr,hd,k,h=>DO hr hd (by simpa only[Fh] using h)
  | .fn _ _,st,F,v,hr,hd,k,h=>DO hr hd (by simpa only[Fh] using h)
  | .np,st,F,v,hr,hd,k,h=>DO hr hd (by simpa only[Fh] using h)
  | .mv _,st,F,v,hr,hd,k,h=>DO hr hd (by simpa only[Fh] using h)
  | .Dt _ _,st,F,v,hr,hd,k,h=>DO hr hd (by simpa only[Fh] using h)
  | .MG _ _ _,st,F,v,hr,hd,k,h=>DO hr hd (by simpa only[Fh] using h)
  | .nr _ _ _ _,st,F,v,hr,hd,k,h=>DO hr hd (by simpa only[Fh] using h)
  | .Sq,st,F,v,hr,hd,k,h=>DO hr hd (by simpa only[Fh] using h)
  | .bad,st,F,v,hr,hd,k,h=>DO hr hd (by simpa only[Fh] using h)
theorem J6:∀(ds:List D) {st:St} {F:Nat->Prop} (vs:List Value),Rel c st a w F M->Kq F w M (sg st.hp) ds vs->∀{k:List D->Hp->Prop},Qv st.hp ds k->
    ∃ZY h' F',k ZY h'/\Rel c {st with hp:=h'} a w F' M/\(∀b,F b->F' b)/\sg h'=sg st.hp/\Kq F' w M (sg h') ZY vs
  | [],st,F,vs,hr,hd,k,h=>by
    simp only[Qv] at h;exact ⟨[],st.hp,F,h,hr,λ _ h=>h,rfl,hd⟩
  | d::ds,st,F,vs,hr,hd,k,h=>by
    cases vs with
    | nil=>have:=hd.1;simp at this
    | cons v vs=>
      simp only[Qv] at h;have hd0:DR F w M (sg st.hp) d v:=by simpa [List.getD] using hd.2 0 d rfl
      obtain ⟨x,h1,F1,hk,Hy,hF1,Lg,hx⟩:=Pb d hr hd0 h;have N8:Kq F1 w M (sg h1) ds vs:=by
        refine ⟨by have:=hd.1;simpa using this,λ i e he=>?_⟩;have:=hd.2 (i+1) e (by simpa using he);rw[Lg];have h3:DR F w M (sg st.hp) e (vs.getD i undef):=by simpa [List.getD] using this
        exact h3.CR (λ _ _=>rfl) hF1 (CX.refl _ _)
      obtain ⟨xs,h2,F2,IP,HB,hF2,OR,HH⟩:=J6 ds (st:={st with hp:=h1}) vs Hy N8 hk;refine ⟨x::xs,h2,F2,IP,HB,λ b hb=>hF2 b (hF1 b hb),OR.trans Lg,by have:=HH.1;simpa using this,λ i y hy=>?_⟩;cases i with
      | zero=>
        simp only[AK,An] at hy;subst hy;have h4:=hx.CR (w':=w) (λ _ _=>rfl) hF2 (CX.refl M (sg h1));rw[OR]
        simpa [List.getD] using h4
      | succ i=>simp only[List.getElem?_cons_succ] at hy;simpa [List.getD] using HH.2 i y hy
end
theorem Rv(hr:Rel c st a w F M)(xs:List Operand):Kq F w M (sg st.hp) (xs.map (ev st)) (xs.map a.eval):=by
 refine ⟨by simp,λ i d hd=>?_⟩;rw[AQ] at hd;cases hx:xs[i]? with
 | none=>rw[hx] at hd;cases hd
 | some x=>
   rw[hx] at hd;cases hd;rw[Ay,AQ,hx];exact Ci hr x
theorem TH{hp:Hp}{t:TypeId}{x:D}{k:D->Prop}(h:Akk P hp t x k){vx:Value}(hx:DR F w M (sg hp) x vx)(ts:Array TypeId)(ty:TypeId)(ht:ts[0]?=some t):
   ∃d v,k d/\DR F w M (sg hp) d v/\(Builtin.len_ ts ty #[vx]).run P w= .ok v w:=by
 unfold Akk at h;split at h
 case h_2=>exact h.elim
 rename_i ti h1;obtain ⟨i1,u1,z1,H7,Ff,_,rfl⟩:=Ce h1;split at h
 . rename_i l hk;obtain rfl:=TK.of_string hk;cases hx with | p hx=>cases hx;exact ⟨_,_,h,.p (.int _ _),by simp[Builtin.len_,ht,run_underlying Ff,goInt,Hk]⟩
 . rename_i e es hk;obtain rfl:=TK.of_slice hk;cases hx with | p hx=>
     have:∃ad cap,vx= .slice ad es.length cap:=by cases hx<;>exact ⟨_,_,rfl⟩
     obtain ⟨ad,cap,rfl⟩:=this;exact ⟨_,_,h,.p (.int _ _),by simp[Builtin.len_,ht,run_underlying Ff,goInt]⟩
 . rename_i e es hk;obtain rfl:=TK.of_slice hk;cases hx with | cl _ ad hx _=>exact ⟨_,_,h,.p (.int _ _),by simp[Builtin.len_,ht,run_underlying Ff,goInt]⟩
 . rename_i e id off len N hk;obtain rfl:=TK.of_slice hk;cases hx with
   | ref _ _ _ _ sz n _ hs hN hv h2=>
     rw[hs] at h;obtain ⟨ad,cap,rfl,_⟩:=h2 h.1;exact ⟨_,_,h.2,.p (.int _ _),by simp[Builtin.len_,ht,run_underlying Ff,goInt]⟩
 . rename_i e id n hk;obtain rfl:=TK.of_slice hk;cases hx with
   | Dt _ _ sz m kk _ hs hN hv h2=>
     obtain ⟨ad,cap,rfl,_⟩:=hv;exact ⟨_,_,h,.p (.int _ _),by simp[Builtin.len_,ht,run_underlying Ff,goInt]⟩
 . rename_i e id i len q hk;obtain rfl:=TK.of_slice hk;cases hx with
   | nr _ _ _ _ sz m kk _ hs hN hv h2=>
     obtain ⟨ad,cap,rfl⟩:=hv;exact ⟨_,_,h,.p (.int _ _),by simp[Builtin.len_,ht,run_underlying Ff,goInt]⟩
 . rename_i n e _ hk;obtain rfl:=TK.of_array hk;exact ⟨_,_,h,.p (.int _ _),by simp[Builtin.len_,ht,run_underlying Ff,goInt]⟩
 . exact h.elim
theorem Y8{α:Type}{x:α}{f:Operand->α}{xs:Array Operand}(h:xs.toList.map f=[x]):∃q,xs=#[q]/\f q=x:=by
 obtain ⟨l⟩:=xs;simp only at h;cases l with
 | nil=>simp at h
 | cons q r=>
   cases r with
   | nil=>simp only[AH,BE,List.cons.injEq,and_true] at h;exact ⟨q,rfl,h⟩
   | cons _ _=>simp at h
theorem Io{α:Type}{x y:α}{f:Operand->α}{xs:Array Operand}(h:xs.toList.map f=[x,y]):∃q r,xs=#[q,r]/\f q=x/\f r=y:=by
 obtain ⟨l⟩:=xs;simp only at h;cases l with
 | nil=>simp at h
 | cons q r=>
   cases r with
   | nil=>simp at h
   | cons q2 r2=>
     cases r2 with
     | nil=>simp only[AH,BE,List.cons.injEq,and_true] at h;exact ⟨q,q2,rfl,h.1,h.2⟩
     | cons _ _=>simp at h
theorem Nf(hr:Rel c st a w F M){o:Oper}{cl:Call}{b:Builtin}(ho:o.op= .call cl)(hb:cl.callee= .builtin b){q:Nat}{k:D->Hp->Prop}
   (h:Ng P st q b cl.argTypes (cl.args.toList.map (ev st)) k):
   ∃d h' v w' M',k d h'/\Rel c {st with hp:=h'} a w' F M'/\DR F w' M' (sg h') d v/\(execOp a.eval o).run P w= .ok (.value v) w':=by
 unfold Ng at h;generalize hl:cl.args.toList.map (ev st)=l at h;split at h
 ·
   rename_i x;obtain ⟨xq,Iv,rfl⟩:=Y8 hl;split at h
   case h_2=>exact h.elim
   rename_i t ht;obtain ⟨d,v,h1,h2,h3⟩:=TH (P:=P) h (Ci hr xq) cl.argTypes o.type ht;exact ⟨d,_,v,w,M,h1,hr,h2,by simp[execOp,ho,hb,resolve,invoke,builtin,Iv,h3]⟩
 ·
   rename_i s x;obtain ⟨sq,xq,Iv,rfl,rfl⟩:=Io hl;split at h
   case h_2=>exact h.elim
   rename_i t t2 ht ht2;obtain ⟨d,h',v,w',M',h1,h2,h3,h4⟩:=Abp (P:=P) (ty:=o.type) hr (Ci hr sq) (Ci hr xq) h;have e:Builtin.append_ cl.argTypes o.type #[a.eval sq,a.eval xq]=Builtin.append_ #[t,t2] o.type #[a.eval sq,a.eval xq]:=by
     simp[Builtin.append_,ht,ht2]
   exact ⟨d,h',v,w',M',h1,h2,h3,by simp[execOp,ho,hb,resolve,invoke,builtin,Iv,e,h4]⟩
 ·
   rename_i s x;obtain ⟨sq,xq,Iv,rfl,rfl⟩:=Io hl;split at h
   case h_2=>exact h.elim
   rename_i t t2 ht ht2;obtain ⟨d,h',v,w',M',h1,h2,h3,h4⟩:=j0 (P:=P) (t2:=t2) (ty:=o.type) hr (Ci hr sq) (Ci hr xq) h;have e:Builtin.copy_ cl.argTypes o.type #[a.eval sq,a.eval xq]=Builtin.copy_ #[t,t2] o.type #[a.eval sq,a.eval xq]:=by
     simp[Builtin.copy_,ht]
   exact ⟨d,h',v,w',M',h1,h2,h3,by simp[execOp,ho,hb,resolve,invoke,builtin,Iv,e,h4]⟩
 ·
   rename_i k1 x k2 y;obtain ⟨xq,yq,Iv,hx,hy⟩:=Io hl;obtain ⟨rfl,hk⟩:=h;have h1:=Ci hr xq;have h2:=Ci hr yq;rw[hx] at h1;rw[hy] at h2;generalize Mk:a.eval xq=vx at h1;generalize hvy:a.eval yq=vy at h2;cases h1 with | p h1=>cases h1;cases h2 with | p h2=>
     cases h2;exact ⟨_,_,_,w,M,hk,hr,.p (.int _ _),by simp[execOp,ho,hb,resolve,invoke,builtin,Iv,Mk,hvy,run_min_int2]⟩
 ·
   rename_i k1 x k2 y;obtain ⟨xq,yq,Iv,hx,hy⟩:=Io hl;obtain ⟨rfl,hk⟩:=h;have h1:=Ci hr xq;have h2:=Ci hr yq;rw[hx] at h1;rw[hy] at h2;generalize Mk:a.eval xq=vx at h1;generalize hvy:a.eval yq=vy at h2;cases h1 with | p h1=>cases h1;cases h2 with | p h2=>
     cases h2;exact ⟨_,_,_,w,M,hk,hr,.p (.int _ _),by simp[execOp,ho,hb,resolve,invoke,builtin,Iv,Mk,hvy,run_max_int2]⟩
 . exact h.elim
theorem Aed(hr:Rel c st a w F M){o:Oper}{f:Operand}{args:List Operand}{g:FuncId}{cap:List D}{K:St->Prop}(ho:De o.op=some (f,args))(hg:ev st f= .fn g cap)
   (hk:HJ P st.hp g (args.map (ev st)++cap) (o.dst.getD 0) λ d h'=>K (({st with hp:=h'}:St).put o.dst d)) (Q:Exit->Act->World->Prop):o.wp P a w (Good c K) Q:=by
 unfold De at ho;split at ho
 case h_2=>cases ho
 rename_i cl Lh;split at ho
 case h_2=>cases ho
 rename_i f' hf;simp only[An,BV] at ho;obtain ⟨rfl,rfl⟩:=ho;have hfv:=Ci hr f';rw[hg] at hfv;generalize hvf:a.eval f'=vf at hfv;cases hfv with
 | fn _ _ UF hl hc=>
   have IS:=(Rv hr cl.args.toList).append (cs':=cap) (vs':=UF.toList) ⟨by simpa using hl,λ i e he=>by have:=hc i e he;simpa [List.getD,Array.getD_eq_getD_getElem?] using this⟩;rcases Si (vs:=cl.args.map a.eval++UF) hr (by simpa using IS) hk with ⟨T5,OX⟩ | ⟨v,w',IC,v',d,h2,F2,M2,hv',IP,HB,IQ⟩
   . have Dy:(execOp a.eval o).run P w= .ok (.enter g (cl.args.map a.eval++UF)) w:=by
       simp only[execOp,Lh,hf,resolve,hvf,Deferred.ofValue,Sem.run_bind,Sem.run_pure,Result.andThen_ok,invoke,Array.empty_append];exact T5
     unfold Oper.wp;rw[Dy];refine OX.mono ?_;rintro e w' ⟨v,d,h2,F2,M2,rfl,IP,HB,IQ⟩;exact ⟨_,F2,M2,IP,HB.put IQ o.dst⟩
   . have Dy:(execOp a.eval o).run P w= .ok (.value v) w':=by
       simp only[execOp,Lh,hf,resolve,hvf,Deferred.ofValue,Sem.run_bind,Sem.run_pure,Result.andThen_ok,invoke,Array.empty_append];exact IC
     cases hv';unfold Oper.wp;rw[Dy];exact ⟨_,F2,M2,IP,HB.put IQ o.dst⟩
theorem QH(hr:Rel c st a w F M){s:Bool}{o:Oper}{K:St->Prop}(h:QK P s o K st)(Q:Exit->Act->World->Prop):o.wp P a w (Good c K) Q:=by
 have val:∀{d v},K (st.put o.dst d)->DR F w M (sg st.hp) d v->(execOp a.eval o).run P w= .ok (.value v) w->o.wp P a w (Good c K) Q:=by
   intro d v hk hd Dy;unfold Oper.wp;rw[Dy];exact ⟨_,F,M,hk,hr.put hd o.dst⟩
 have mop:Ayt P c st a w F o (λ d h=>K (({st with hp:=h}:St).put o.dst d))->o.wp P a w (Good c K) Q:=by
   rintro ⟨d,h',v,w',F',M',hk,J2,hF,hd,Dy⟩;unfold Oper.wp;rcases Dy with Dy | ⟨rfl,Dy⟩
   . rw[Dy];exact ⟨_,F',M',hk,J2.put hd o.dst⟩
   . rw[Dy];exact ⟨_,F',M',hk,J2.put hd o.dst⟩
 have other:(Kn P st o).all (λ x=>K (({st with hp:=x.2}:St).put o.dst x.1))->o.wp P a w (Good c K) Q:=by
   intro h;unfold Kn at h;split at h
   . rename_i cl ho;split at h
     . rename_i b hb;obtain ⟨d,h',v,w',M',hk,J2,hd,Dy⟩:=Nf hr ho hb (LS (k:=λ d h=>K (({st with hp:=h}:St).put o.dst d)) h);unfold Oper.wp;rw[Dy];exact ⟨_,F,M',hk,J2.put hd o.dst⟩
     . exact h.elim
   . exact mop (Gn hr (Im h))
   . exact mop (Gn hr (Im h))
   . exact mop (Gn hr (Im h))
   . exact mop (Gn hr (Im h))
   . exact mop (Gn hr (Im h))
   . exact mop (Gn hr (Im h))
   . exact mop (Gn hr (Im h))
   . have h1:=Yz (Rs.Cg (λ d hd=>hd.2) (Rs.all_bind h));obtain ⟨d,v,hk,hd,Dy⟩:=VE hr h1;exact val hk hd Dy
 unfold QK at h;split at h
 . rename_i f args ho;unfold De at ho;split at ho
   case h_2=>cases ho
   rename_i cl Lh;split at ho
   case h_2=>cases ho
   rename_i f' hf;simp only[An,BV] at ho;obtain ⟨rfl,rfl⟩:=ho;rcases Rs.Gl h with h | h
   case inr=>exact h.2 c a w F M Q hr
   have hfv:=Ci hr f';unfold G9 at h;split at h
   case h_2=>exact h.elim
   rename_i g cap he;rw[he] at hfv;generalize hvf:a.eval f'=vf at hfv;cases hfv with
   | fn _ _ UF hl hc=>
     have IS:=(Rv hr cl.args.toList).append (cs':=cap) (vs':=UF.toList) ⟨by simpa using hl,λ i e he=>by have:=hc i e he;simpa [List.getD,Array.getD_eq_getD_getElem?] using this⟩;have hb:=LV (k:=λ ds h=>LQ (s=true/\Ou P o K st) P h g ds (o.dst.getD 0) λ d h'=>K (({st with hp:=h'}:St).put o.dst d)) (Rs.Cg (λ x hx=>hx.2) (Rs.all_bind h));obtain ⟨ds,h',F',hk,J2,hF,hs,hds⟩:=J6 _ _ hr IS hb;rcases RA hk with hk | hk
     case inr=>exact hk.2 c a w F M Q hr
     rcases Si (vs:=cl.args.map a.eval++UF) J2 (by simpa using hds) hk with ⟨T5,OX⟩ | ⟨v,w',IC,v',d,h2,F2,M2,hv',IP,HB,IQ⟩
     . have Dy:(execOp a.eval o).run P w= .ok (.enter g (cl.args.map a.eval++UF)) w:=by
         simp only[execOp,Lh,hf,resolve,hvf,Deferred.ofValue,Sem.run_bind,Sem.run_pure,Result.andThen_ok,invoke,Array.empty_append];exact T5
       unfold Oper.wp;rw[Dy];refine OX.mono ?_;rintro e w' ⟨v,d,h2,F2,M2,rfl,IP,HB,IQ⟩;exact ⟨_,F2,M2,IP,HB.put IQ o.dst⟩
     . have Dy:(execOp a.eval o).run P w= .ok (.value v) w':=by
         simp only[execOp,Lh,hf,resolve,hvf,Deferred.ofValue,Sem.run_bind,Sem.run_pure,Result.andThen_ok,invoke,Array.empty_append];exact IC
       cases hv';unfold Oper.wp;rw[Dy];exact ⟨_,F2,M2,IP,HB.put IQ o.dst⟩
 . rcases Rs.Gl h with h | h
   . exact other h
   . exact h.2 c a w F M Q hr
theorem R9(hr:Rel c st a w F M){ops:Array Oper}{o:Oper}{yes no:Prop}(h:FT st ops.toList o.guard yes no):
   (Region.wanted o (yielded ops a.tmps)=true/\yes)∨(Region.wanted o (yielded ops a.tmps)=false/\no):=by
 unfold FT at h;split at h
 . rename_i hg;exact .inl ⟨by simp[Region.wanted,hg],h⟩
 . rename_i j want hg;have hyl:∀{d:D},((ops.toList[j]?).bind (·.dst)).bind (get st.env)=some d->∃t,(ops[j]?).bind (·.dst)=some t/\DR F w M (sg st.hp) d (a.tmps.getD t undef):=by
     intro d hd;rw[Bv] at hd;cases ht:(ops[j]?).bind (·.dst) with
     | none=>rw[ht] at hd;cases hd
     | some t=>rw[ht] at hd;exact ⟨t,rfl,hr.env t d hd⟩
   split at h
   . rename_i b hb;obtain ⟨t,h1,h2⟩:=hyl hb;have hv:a.tmps[t]?=some (.bool b):=by
       generalize hq:a.tmps.getD t undef=v at h2;cases h2 with | p h2=>
         cases h2;rw[At] at hq;cases hx:a.tmps[t]? with
         | none=>rw[hx] at hq;simp[undef] at hq
         | some u=>rw[hx] at hq;simp at hq;rw[hq]
     have hw:Region.wanted o (yielded ops a.tmps)=(b==want):=by
       simp only[Region.wanted,hg,yielded,h1,Aa,hv];cases b<;>cases want<;>rfl
     rw[hw];by_cases e:(b==want)=true
     . exact .inl ⟨e,h.1 e⟩
     . exact .inr ⟨by simpa using e,h.2 (by simpa using e)⟩
   . rename_i hb;obtain ⟨t,h1,h2⟩:=hyl hb;refine .inr ⟨?_,h⟩;simp only[Region.wanted,hg,yielded,h1,Aa];generalize hq:a.tmps.getD t undef=v at h2;cases h2 with
     | Dr _ vs hl _=>
       rw[At] at hq;cases hx:a.tmps[t]? with
       | none=>rfl
       | some u=>rw[hx] at hq;simp at hq;rw[hq];rfl
   . exact h.elim
theorem Rel.drew(hr:Rel c st a w F M):Rel c st a {w with drawn:=w.drawn+1} F M:=by
 have hs:=CX.refl M (sg st.hp);refine ⟨λ t d ht=>(hr.env t d ht).CR (λ _ _=>rfl) (λ _ h=>h) hs,hr.size,hr.defers,hr.heap.CR (λ _ _=>rfl) (λ _ _=>rfl),?_⟩;have hk:=hr.CR;exact ⟨hk.os,hk.tape,hk.output,hk.size,hk.NA,hk.F0,hk.Fn,hk.Fl,hk.own,hk.W5,hk.s0b⟩
theorem Ox{Q:Exit->Act->World->Prop}{s:Bool}{K:St->Prop}(ops:Array Oper)(hQ:∀a w,Good c K a w->Q .normal a w):∀(l:List Oper) {st:St} {a:Act} {w:World} {F:Nat->Prop} {M:Nat->Mb},
   Rel c st a w F M->U3 P s ops.toList l K st->wpList P ops Q l a w
 | [],st,a,w,F,M,hr,h=>hQ _ _ ⟨st,F,M,h,hr⟩
 | o::rest,st,a,w,F,M,hr,h=>by
   simp only[U3] at h;refine wpList_step λ KK hKK=>?_;have yes:QK P s o (U3 P s ops.toList rest K) st->o.wp P a w KK Q:=λ hy=>
     Oper.wp_mono (λ a' w' ⟨st',F',M',h1,h2⟩=>hKK _ _ (Ox ops hQ rest h2 h1)) (QH hr hy Q)
   have no:U3 P s ops.toList rest K (st.put o.dst (.Dr []))->KK (a.put o.dst undef) w:=λ hn=>
     hKK _ _ (Ox ops hQ rest (hr.put (.Dr [] #[] rfl (λ i d hd=>by simp at hd)) o.dst) hn)
   rcases R9 hr h with ⟨hw,hy⟩ | ⟨hw,hn⟩
   . rw[if_pos hw];exact yes hy
   . rw[if_neg (by rw[hw];simp)];exact no hn
theorem Ait{K:St->Prop}{Q:Exit->St->Prop}{e:Exit}{a:Act}{w:World}{N:Act->World->Prop}(hN:∀st F M,K st->Rel c st a w F M->N a w)(h:QC c (thn K Q) e a w):Exit.then N (QC c Q) e a w:=by
 obtain ⟨st,F,M,h1,h2⟩:=h;cases e<;>first
   | exact hN st F M h1 h2
   | exact ⟨st,F,M,h1,h2⟩
theorem Avd{id:Nat}{Q:Exit->St->Prop}{e:Exit}{a:Act}{w:World}(h:QC c (DK id Q) e a w):Exit.inBlock id (QC c Q) e a w:=by
 obtain ⟨st,F,M,h1,h2⟩:=h;cases e with
 | exit Pk=>
   simp only[DK] at h1;simp only[Exit.inBlock];split at h1
   . rename_i e;rw[if_pos e];exact ⟨st,F,M,h1,h2⟩
   . rename_i e;rw[if_neg e];exact ⟨st,F,M,h1,h2⟩
 | _=>exact ⟨st,F,M,h1,h2⟩
theorem Hi:∀(x:Code) {Q:Exit->St->Prop} {st:St} {a:Act} {w:World} {F:Nat->Prop} {M:Nat->Mb},Rel c st a w F M->wA P x Q st->x.wp P (QC c Q) a w
 | .skip,Q,st,a,w,F,M,hr,h=>wp_skip ⟨st,F,M,h,hr⟩
 | .label _,Q,st,a,w,F,M,hr,h=>wp_label ⟨st,F,M,h,hr⟩
 | .ret,Q,st,a,w,F,M,hr,h=>wp_ret ⟨st,F,M,h,hr⟩
 | .exit id,Q,st,a,w,F,M,hr,h=>wp_exit ⟨st,F,M,h,hr⟩
 | .goto l,Q,st,a,w,F,M,hr,h=>wp_goto ⟨st,F,M,h,hr⟩
 | .seq x y,Q,st,a,w,F,M,hr,h=>by
   simp only[wA] at h;exact wp_seq (Code.wp_mono (λ e a' w' hq=>Ait (λ st F M h1 h2=>Hi y h2 h1) hq) (Hi x hr h))
 | .cond q x y,Q,st,a,w,F,M,hr,h=>by
   simp only[wA] at h;have hq:=Ci hr q;split at h
   . rename_i b hb;rw[hb] at hq;generalize hv:a.eval q=v at hq;cases hq with | p hq=>
       cases hq;exact wp_cond_split hv (λ e=>Hi x hr (h.1 e)) (λ e=>Hi y hr (h.2 e))
   . exact h.elim
 | .block id x,Q,st,a,w,F,M,hr,h=>by
   simp only[wA] at h;exact wp_block (Code.wp_mono (λ e a' w' hq=>Avd hq) (Hi x hr h))
 | .loop x,Q,st,a,w,F,M,hr,h=>by
   simp only[wA] at h;obtain ⟨n,h⟩:=h;refine wp_loop_rounds n ?_;have key:∀(n:Nat) (st:St) (a:Act) (w:World) (F:Nat->Prop) (M:Nat->Mb),Rel c st a w F M->Ys (wA P x) Q n st->Code.rounds P x (QC c Q) n a w:=by
     intro n
     induction n with
     | zero=>intro st a w F M _ h;exact h.elim
     | succ n ih=>
       intro st a w F M hr h;rw[rounds_succ];obtain ⟨st1,Hb,h⟩:=h;obtain ⟨F1,M1,Hy⟩:=Hb c a w F M hr;exact Code.wp_mono (λ e a' w' hq=>Ait (λ st F M h1 h2=>ih st _ _ F M h2 h1) hq) (Hi x Hy h)
   exact key n st a w F M hr h
 | .scope x,Q,st,a,w,F,M,hr,h=>by
   simp only[wA] at h;exact h c a w F M hr
 | .region id ops draw,Q,st,a,w,F,M,hr,h=>by
   simp only[wA] at h;rcases h with ⟨rfl,h⟩ | ⟨rfl,h⟩
   . exact wp_region_list (Ox ops (λ a' w' hg=>hg) ops.toList hr h)
   . exact h c a w F M hr
 | .rangeFunc ..,Q,st,a,w,F,M,hr,h=>by simp only[wA] at h
 | .refuse _,Q,st,a,w,F,M,hr,h=>by simp only[wA] at h
end
end Go.Am
namespace Go.Am
open Go
def Sf:Nat->List D->List (Nat×D)
 | _,[]=>[]
 | k,d::r=>(k,d)::Sf (k+1) r
def U7(P:Program)(st:St):List ResultVar->(List D->Prop)->Prop
 | [],k=>k []
 | .tmp t::r,k=>U7 P st r λ ds=>k ((get st.env t).getD .bad::ds)
 | .cell t T::r,k=>V5 P st.hp T ((get st.env t).getD .bad) λ d=>U7 P st r λ ds=>k (d::ds)
def WY:List D->D
 | [d]=>d
 | ds=> .Dr ds
def OG(T:List Nat)(id:Nat):Option Nat:=if base<=id then (if id∈T then some id else none) else idx (T.filter (· <base)) 0 id
def pick(h:Hp)(ρ:Nat->Option Nat):List Nat->Hp
 | []=>[]
 | id::r=>match get h id,ρ id with
   | some o,some j=>(j,o.D8 ρ)::pick h ρ r
   | _,_=>pick h ρ r
def Pu(h0:List Nat)(hp:Hp)(d:D)(R:Hp->D->Prop):Prop:=
 let T:=DJ hp (h0++d.ids)
 T.Nodup/\(T.all λ id=>(get hp id).isSome)=true/\(h0.all λ id=>base<=id&&T.contains id)=true/\(T.filter (· <base)).length<=base/\
 R (pick hp (OG T) T) (d.D8 (OG T))
def Uq(h0:List Nat)(hp:Hp)(d:D)(R:Hp->D->Prop):Prop:=
 Pu h0 hp d R∨Fh hp d λ d' h'=>Pu h0 h' d' R
def Bcj(P:Program)(fn:Func)(h0:List Nat)(R:Hp->D->Prop):Exit->St->Prop
 | .normal,st | .ret,st=>U7 P st fn.results.toList λ ds=>Uq h0 st.hp (WY ds) R
 | _,_=>False
section
variable {P:Program} {c:Ctx} {st:St} {a:Act} {w:World} {F:Nat->Prop} {M:Nat->Mb}
theorem Wm:∀(ds:List D) (k t:Nat) (d:D),get (Sf k ds) t=some d->k<=t/\ds[t - k]?=some d
 | [],k,t,d,h=>by simp[Sf,get] at h
 | x::r,k,t,d,h=>by
   simp only[Sf,Ct] at h;split at h
   . rename_i e;cases h;subst e;exact ⟨Ai _,by simp⟩
   . obtain ⟨h1,h2⟩:=Wm r (k+1) t d h;exact ⟨by omega,by rw[show t - k=(t - (k+1))+1 from by omega];simpa using h2⟩
theorem Rel.start{h:Hp}{args:List D}{vs:Array Value}{n:Nat}(hHR:HR F w M h)(hFl:∀b,F b->b<w.heap.size)(hsb:∀id,sg h id≠none->base<=id)(hd:Kq F w M (sg h) args vs.toList)(hn:args.length<=n):
   Rel ⟨w,F,ET M h,M,sg h⟩ ⟨Sf 0 args,h,n⟩ {tmps:=vs++Array.replicate (n - vs.size) undef,defers:=[]} w F M:=by
 have hl:vs.size=args.length:=by simpa using hd.1
 refine ⟨λ t d ht=>?_,by simp;omega,rfl,hHR,⟨rfl,rfl,rfl,Ai _,λ _ _ _=>rfl,λ _ h=>h,λ _ h=> .inl h,hFl,λ _ h=> .inl h,CX.refl _ _,hsb⟩⟩;obtain ⟨_,h2⟩:=Wm args 0 t d ht;have h3:=hd.2 t d (by simpa using h2);have Cr:=(Ao.1 h2).1;have e:(vs++Array.replicate (n - vs.size) undef).getD t undef=vs.toList.getD t undef:=by
   rw[At,Ay,Array.getElem?_append,if_pos (by omega),Bv]
 rw[e];exact h3
theorem OI(hr:Rel c st a w F M):∀(rs:List ResultVar) {k:List D->Prop},U7 P st rs k->
   ∃ds vs,k ds/\Kq F w M (sg st.hp) ds vs/\(rs.mapM λ | .tmp t=>pure (a.tmps.getD t undef) | .cell q t=>do loadVar t (<-asAddr (a.tmps.getD q undef)):Sem (List Value)).run P w= .ok vs w
 | [],k,h=>⟨[],[],h,⟨rfl,λ i d hd=>by simp at hd⟩,by simp⟩
 | .tmp t::r,k,h=>by
   simp only[U7] at h;obtain ⟨ds,vs,h1,h2,h3⟩:=OI hr r h;have hd:DR F w M (sg st.hp) ((get st.env t).getD .bad) (a.tmps.getD t undef):=Ci hr (.tmp t);refine ⟨_,a.tmps.getD t undef::vs,h1,⟨by simp[h2.1],λ i d U0=>?_⟩,?_⟩
   . cases i with
     | zero=>simp only[List.getElem?_cons_zero,Option.some.injEq] at U0;subst U0;simpa [List.getD] using hd
     | succ i=>simp only[List.getElem?_cons_succ] at U0;simpa [List.getD] using h2.2 i d U0
   . rw[List.mapM_cons,Sem.run_bind,Sem.run_pure,Result.andThen_ok,Sem.run_bind,h3];rfl
 | .cell t T::r,k,h=>by
   simp only[U7] at h;have hd:DR F w M (sg st.hp) ((get st.env t).getD .bad) (a.tmps.getD t undef):=Ci hr (.tmp t);obtain ⟨d,v,h4,h5,h6⟩:=RY hr.heap h hd;obtain ⟨ds,vs,h1,h2,h3⟩:=OI hr r h4;refine ⟨_,v::vs,h1,⟨by simp[h2.1],λ i d U0=>?_⟩,?_⟩
   . cases i with
     | zero=>simp only[List.getElem?_cons_zero,Option.some.injEq] at U0;subst U0;simpa [List.getD] using h5
     | succ i=>simp only[List.getElem?_cons_succ] at U0;simpa [List.getD] using h2.2 i d U0
   . have h7:(do loadVar T (<-asAddr (a.tmps.getD t undef)):Sem Value).run P w= .ok v w:=by
       generalize a.tmps.getD t undef=x at h6;cases x<;>simp[Instr.loadAt,Instr.sureAddr] at h6;rename_i ad;cases ad<;>simp[Instr.sureAddr] at h6
       simpa [asAddr] using h6
     rw[List.mapM_cons,Sem.run_bind,h7,Result.andThen_ok,Sem.run_bind,h3];rfl
theorem u0{s:Nat->Option Sg}{ds:List D}{vs:List Value}(h:Kq F w M s ds vs):DR F w M s (WY ds) (if hx:vs.toArray.size=1 then vs.toArray[0] else .tuple vs.toArray):=by
 have hl:=h.1;have Dr:ds.length≠1->WY ds= .Dr ds:=by
   intro Dl;cases ds with
   | nil=>rfl
   | cons d r=>cases r with
     | nil=>simp at Dl
     | cons _ _=>rfl
 by_cases e:ds.length=1
 . obtain ⟨d,rfl⟩:=List.length_eq_one_iff.1 e;obtain ⟨v,rfl⟩:=List.length_eq_one_iff.1 (hl.trans e);have:=h.2 0 d rfl
   simpa [WY,List.getD] using this
 . rw[Dr e,dif_neg (by simp;omega)];exact .Dr ds vs.toArray (by simpa using hl) (λ i d hd=>by have:=h.2 i d hd;simpa [List.getD,Array.getD_eq_getD_getElem?] using this)
theorem KV{h:Hp}{ρ:Nat->Option Nat}:∀{T:List Nat} {j:Nat} {o:AO},get (pick h ρ T) j=some o->∃id o2,id∈T/\ρ id=some j/\get h id=some o2/\o=o2.D8 ρ
 | [],j,o,hg=>by simp[pick,get] at hg
 | id::r,j,o,hg=>by
   simp only[pick] at hg;split at hg
   . rename_i o2 k ho hk;rw[Ct] at hg;split at hg
     . rename_i e;subst e;cases hg;exact ⟨id,o2,by simp,hk,ho,rfl⟩
     . obtain ⟨i,o3,h1,h2⟩:=KV hg;exact ⟨i,o3,by simp[h1],h2⟩
   . obtain ⟨i,o3,h1,h2⟩:=KV hg;exact ⟨i,o3,by simp[h1],h2⟩
theorem Sc{h:Hp}{ρ:Nat->Option Nat}(OS:∀i i' j,ρ i=some j->ρ i'=some j->i=i'):∀{T:List Nat} {id j:Nat} {o:AO},id∈T->ρ id=some j->get h id=some o->
   get (pick h ρ T) j=some (o.D8 ρ)
 | [],id,j,o,hm,_,_=>by simp at hm
 | x::r,id,j,o,hm,hj,ho=>by
   simp only[pick];by_cases e:x=id
   . subst e;rw[ho,hj];simp[Ct]
   . have q0:id∈r:=by
       rcases AG.1 hm with h1 | h1
       . exact (e h1.symm).elim
       . exact h1
     have ih:=Sc OS q0 hj ho;split
     . rename_i o2 k UZ hk;rw[Ct,if_neg (λ e2=>e (OS x id j (by rw[hk,e2]) hj))];exact ih
     . exact ih
theorem Ajl{T:List Nat}(hlen:(T.filter (· <base)).length<=base)(i i' j:Nat)(h:OG T i=some j)(h':OG T i'=some j):i=i':=by
 unfold OG at h h';by_cases e1:base<=i<;>by_cases e2:base<=i'
 . rw[if_pos e1] at h;rw[if_pos e2] at h';split at h<;>split at h'<;>simp_all
 . rw[if_pos e1] at h;rw[if_neg e2] at h';obtain ⟨p,rfl,hp⟩:=JE _ _ _ _ h';split at h
   . simp only[An] at h;have:=(Ao.1 hp).1;omega
   . cases h
 . rw[if_neg e1] at h;rw[if_pos e2] at h';obtain ⟨p,rfl,hp⟩:=JE _ _ _ _ h;split at h'
   . simp only[An] at h';have:=(Ao.1 hp).1;omega
   . cases h'
 . rw[if_neg e1] at h;rw[if_neg e2] at h';obtain ⟨p,rfl,hp⟩:=JE _ _ _ _ h;obtain ⟨p',e3,hp'⟩:=JE _ _ _ _ h';have:p=p':=by omega
   subst this;rw[hp] at hp';exact (Ac hp')
theorem OH(hr:Rel c st a w F M){h0:Hp}(p7:c.s0=sg h0)(hO:∀b,c.O0 b↔ET c.M0 h0 b){d:D}{v:Value}{R:Hp->D->Prop}(hd:DR F w M (sg st.hp) d v)(h:Pu (h0.map (·.1)) st.hp d R):
   ∃h' r M',R h' r/\HR F w M' h'/\DR F w M' (sg h') r v/\Ap0 c w F M' h':=by
 unfold Pu at h;generalize DJ st.hp (h0.map (·.1)++d.ids)=T at h;obtain ⟨hT,Dw,h0T,hlen,hR⟩:=h;have OS:=Ajl hlen
 let M':Nat->Mb:=λ j=>if base<=j then M j else M ((T.filter (· <base)).getD j 0)
 have hρ:∀id j,OG T id=some j->id∈T/\M' j=M id:=by
   intro id j hj;unfold OG at hj;by_cases e:base<=id
   . rw[if_pos e] at hj;split at hj
     . rename_i hm;simp only[An] at hj;subst hj;exact ⟨hm,by simp only[M',if_pos e]⟩
     . cases hj
   . rw[if_neg e] at hj;obtain ⟨i,rfl,hi⟩:=JE _ _ _ _ hj;have Cr:=(Ao.1 hi).1;refine ⟨(List.mem_filter.1 (AR hi)).1,?_⟩;simp only[M'];rw[if_neg (by omega),Ay,Bi,hi,A4]
 have Hr:∀id j,OG T id=some j->sg st.hp id≠none->M' j=M id/\sg (pick st.hp (OG T) T) j=sg st.hp id:=by
   intro id j hj hs;obtain ⟨hm,hM⟩:=hρ id j hj;refine ⟨hM,?_⟩;cases ho:get st.hp id with
   | none=>exact (hs (by simp[sg,ho])).elim
   | some o=>
     have:=Sc OS hm hj ho;simp[sg,this,ho,AO.Aa5]
 have CN:∀b,ET M' (pick st.hp (OG T) T) b->ET M st.hp b:=by
   rintro b ⟨j,o,hj,ho⟩;obtain ⟨id,o2,hm,h1,h2,rfl⟩:=KV hj;rw[(hρ id j h1).2] at ho;exact ⟨id,o2,h2,(AO.GI _ _ _ _).1 ho⟩
 refine ⟨_,_,M',hR,?_,hd.D8 Hr,?_⟩
 . constructor
   . intro j o hj;obtain ⟨id,o2,hm,h1,h2,rfl⟩:=KV hj;rw[(hρ id j h1).2];exact (hr.heap.obj id o2 h2).D8 Hr
   . intro j o j' o' b hj Hc ho NH;obtain ⟨id,o2,hm,h1,h2,rfl⟩:=KV hj;obtain ⟨Pk,o2',q0,EB,H9,rfl⟩:=KV Hc;rw[(hρ id j h1).2] at ho;rw[(hρ Pk j' EB).2] at NH;have:=hr.heap.inj id o2 Pk o2' b h2 H9 ((AO.GI _ _ _ _).1 ho) ((AO.GI _ _ _ _).1 NH);subst this;rw[h1] at EB;exact Ac EB
 . have hk:=hr.CR;have Av1:∀id,sg h0 id≠none->base<=id/\id∈T:=by
     intro id hs;have E0:id∈h0.map (·.1):=by
       clear p7 hO h0T hR
       induction h0 with
       | nil=>simp[sg,get] at hs
       | cons q r ih=>
         obtain ⟨k,o⟩:=q;simp only[AH,AG];by_cases e:id=k
         . exact .inl e
         . right;apply ih
           simpa [sg,Ct,Ne.symm e] using hs
     have:=AB.1 h0T id E0;simp only[As,Au] at this;exact ⟨this.1,by simpa using this.2⟩
   have XC:∀id,sg h0 id≠none->OG T id=some id:=λ id hs=>by
     obtain ⟨h1,h2⟩:=Av1 id hs;unfold OG;rw[if_pos h1,if_pos h2]
   refine ⟨hk.os,hk.tape,hk.output,hk.size,hk.NA,hk.F0,hk.Fn,hk.Fl,λ b hb=>hk.own b (CN b hb),?_,hk.s0b⟩;have G4:=hk.W5;rw[p7] at G4 ⊢;refine ⟨λ id hi=>?_,λ id sz n hi=>?_,λ id sz n kk hi=>?_⟩
   . obtain ⟨h1,h2⟩:=G4.1 id hi;have h3:=Hr id id (XC id (by rw[hi];simp)) (by rw[h1];simp);exact ⟨by rw[h3.2,h1],by rw[h3.1,h2]⟩
   . obtain ⟨n',h1,EB,h2⟩:=G4.2.1 id sz n hi;have h3:=Hr id id (XC id (by rw[hi];simp)) (by rw[h1];simp);exact ⟨n',by rw[h3.2,h1],EB,λ e=>by rw[h3.1,h2 e]⟩
   . obtain ⟨n',k',h1,EB,Av0,h2,H9⟩:=G4.2.2 id sz n kk hi;have h3:=Hr id id (XC id (by rw[hi];simp)) (by rw[h1];simp);exact ⟨n',k',by rw[h3.2,h1],EB,Av0,λ e=>by rw[h3.1];exact h2 e,λ e=>by rw[h3.1];exact H9 e⟩
theorem Aig{f:FuncId}{fn:Func}{code:Code}{args:List D}{h:Hp}{R:Hp->D->Prop}{Q:Exit->St->Prop}(hf:P.funcs[f]?=some fn)(hb:fn.body=some code)(T5:Enters P f)
   (hn:args.length<=fn.ntmps) (hQ:∀e st,Q e st->Bcj P fn (h.map (·.1)) R e st) (hw:wA P code Q ⟨Sf 0 args,h,fn.ntmps⟩):B1 P f args h R:=by
 refine λ vs w F M hHR hFl hsb hd=> .inl ⟨T5 vs w,calls_of_wp hf hb (Code.wp_mono ?_ (Hi code (Rel.start hHR hFl hsb hd hn) hw))⟩;rintro e a w' ⟨st,F',M',hq0,hr⟩;have hq:=hQ e st hq0;have key:U7 P st fn.results.toList (λ ds=>Uq (h.map (·.1)) st.hp (WY ds) R)->a.defers=[]/\∃v,(results fn a.tmps).run P w'= .ok v w'/\
     ∃v2 h' r F' M',Ending.returned v=Ending.returned v2/\R h' r/\HR F' w' M' h'/\DR F' w' M' (sg h') r v2/\Ap0 ⟨w,F,ET M h,M,sg h⟩ w' F' M' h':=by
   intro JT;obtain ⟨ds,vs2,h1,h2,h3⟩:=OI hr _ JT;have hv:=u0 h2;refine ⟨hr.defers,(if hx:vs2.toArray.size=1 then vs2.toArray[0] else .tuple vs2.toArray),?_,?_⟩;rotate_left
   . rcases h1 with h1 | h1
     . obtain ⟨h',r,M2,h4,h5,h6,h7⟩:=OH hr rfl (λ _=>Iff.rfl) hv h1;exact ⟨_,h',r,F',M2,rfl,h4,h5,h6,h7⟩
     . obtain ⟨d',H9,F2,h4,HB,hF2,OR,IQ⟩:=Pb _ hr hv h1;obtain ⟨h',r,M2,h4,h5,h6,h7⟩:=OH HB rfl (λ _=>Iff.rfl) IQ h4;exact ⟨_,h',r,F2,M2,rfl,h4,h5,h6,h7⟩
   . unfold results;rw[Sem.run_bind,Array.mapM_eq_mapM_toList,Sem.run_map];refine (congrArg (λ r=>(r.andThen λ a w'=>Result.ok a.toArray w').andThen λ (a:Array Value) w'=>Sem.run P (pure (if h:a.size=1 then a[0] else Value.tuple a)) w') h3).trans ?_;simp
 cases e<;>first
   | exact key hq
   | exact hq.elim
end
end Go.Am
namespace Go.Am
open Go
theorem nd.{u}{α:Sort u}{a b:α}(h:a=b):a=b:=h
def Xc(P:Program)(st:St):List ResultVar->Rs (List D)
 | []=> .ret True []
 | .tmp t::r=>(Xc P st r).bind λ ds=> .ret True ((get st.env t).getD .bad::ds)
 | .cell t T::r=>(MJ P st.hp T ((get st.env t).getD .bad)).bind λ d=>(Xc P st r).bind λ ds=> .ret True (d::ds)
theorem Tk{P:Program}{st:St}:∀{rs:List ResultVar} {k:List D->Prop},(Xc P st rs).all k->U7 P st rs k
 | [],k,h=>h.2
 | .tmp t::r,k,h=>by
   simp only[Xc] at h;simp only[U7];exact Tk (Rs.Cg (λ ds hd=>hd.2) (Rs.all_bind h))
 | .cell t T::r,k,h=>by
   simp only[Xc] at h;simp only[U7];exact V4 (Rs.Cg (λ d hd=>Tk (Rs.Cg (λ ds hd=>hd.2) (Rs.all_bind hd))) (Rs.all_bind h))
inductive Kt where
 | user (Q:Exit->St->Prop)
 | fin (rs:List ResultVar) (h0:List Nat) (R:Hp->D->Prop)
 | seq (y:Code) (k:Kt)
 | DK (id:Nat) (k:Kt)
 | lp (x:Code) (n:Nat) (k:Kt)
def Kt.Fi(P:Program):Kt->Exit->St->Prop
 | .user Q=>Q
 | .fin rs h0 R=>λ e st=>match e with
   | .normal | .ret=>(Xc P st rs).all λ ds=>Uq h0 st.hp (WY ds) R
   | _=>False
 | .seq y k=>thn (wA P y (k.Fi P)) (k.Fi P)
 | .DK id k=>Go.Am.DK id (k.Fi P)
 | .lp x n k=>thn (Ys (wA P x) (k.Fi P) n) (k.Fi P)
def X(P:Program)(c:Code)(k:Kt)(st:St):Prop:=wA P c (k.Fi P) st
def J(P:Program)(k:Kt)(e:Exit)(st:St):Prop:=k.Fi P e st
def O(P:Program)(s:Bool)(ops rest:List Oper)(k:Kt)(st:St):Prop:=U3 P s ops rest (k.Fi P .normal) st
def L(P:Program)(x:Code)(k:Kt)(n:Nat)(st:St):Prop:=Ys (wA P x) (k.Fi P) n st
def Af(P:Program)(s:Bool)(ops rest:List Oper)(k:Kt)(o:Oper)(st:St)(r:Rs (D×Hp)):Prop:=
 r.JO (s=true/\Ou P o (O P s ops rest k) st) λ x=>O P s ops rest k (({st with hp:=x.2}:St).put o.dst x.1)
def Cl(P:Program)(s:Bool)(ops rest:List Oper)(k:Kt)(o:Oper)(st:St)(r:Rs (FuncId×List D×Hp)):Prop:=
 r.JO (s=true/\Ou P o (O P s ops rest k) st) λ x=>LQ (s=true/\Ou P o (O P s ops rest k) st) P x.2.2 x.1 x.2.1 (o.dst.getD 0) λ d h'=>O P s ops rest k (({st with hp:=h'}:St).put o.dst d)
def Do(P:Program)(s:Bool)(ops rest:List Oper)(k:Kt)(o:Oper)(st:St):Prop:=QK P s o (U3 P s ops rest (k.Fi P .normal)) st
def Cn(P:Program)(x y:Code)(k:Kt)(st:St)(d:D):Prop:=match d with
 | .p (.bool b)=>WT b (X P x k st) (X P y k st)
 | _=>False
inductive Gv where
 | yes | no | cond (b:Bool) | bad
def Kl(st:St)(ops:List Oper)(g:Option (Nat×Bool)):Gv:=
 match g with
 | none=> .yes
 | some (j,want)=>match ((ops[j]?).bind (·.dst)).bind (get st.env) with
   | some (.p (.bool b))=> .cond (b==want)
   | some (.Dr [])=> .no
   | _=> .bad
def Gu(P:Program)(s:Bool)(ops rest:List Oper)(k:Kt)(o:Oper)(st:St):Gv->Prop
 | .yes=>Do P s ops rest k o st
 | .no=>O P s ops rest k (st.put o.dst (.Dr []))
 | .cond b=>WT b (Do P s ops rest k o st) (O P s ops rest k (st.put o.dst (.Dr [])))
 | .bad=>False
section
variable {P:Program} {s:Bool} {ops rest l:List Oper} {k:Kt} {st:St} {x y:Code} {id i n:Nat} {o:Oper} {dst:Option Nat} {b:Bool}
theorem Avh:X P .skip k st=J P k .normal st:=nd rfl
theorem Arw:X P (.label i) k st=J P k .normal st:=nd rfl
theorem Ayq:X P .ret k st=J P k .ret st:=nd rfl
theorem Avj:X P (.exit i) k st=J P k (.exit i) st:=nd rfl
theorem Avi:X P (.goto i) k st=J P k (.goto i) st:=nd rfl
theorem Ayp:X P (.seq x y) k st=X P x (.seq y k) st:=nd rfl
theorem Avk(c:Operand):X P (.cond c x y) k st=Cn P x y k st (ev st c):=nd rfl
theorem Arx:X P (.block id x) k st=X P x (.DK id k) st:=nd rfl
theorem Aou:X P (.region id l.toArray false) k st=O P true l l k st:=by
 unfold X O;simp[wA]
theorem X4(n:Nat)(h:L P x k n st):X P (.loop x) k st:=⟨n,h⟩
theorem Avp:L P x k (n+1) st=∃st1,Wk st st1/\X P x (.lp x n k) st1:=nd rfl
theorem X5:J P (.seq y k) .normal st=X P y k st:=nd rfl
theorem Ai7:J P (.seq y k) .ret st=J P k .ret st:=nd rfl
theorem Abt:J P (.seq y k) (.exit i) st=J P k (.exit i) st:=nd rfl
theorem Abs:J P (.seq y k) (.goto i) st=J P k (.goto i) st:=nd rfl
theorem X7:J P (.DK id k) .normal st=J P k .normal st:=nd rfl
theorem Aib:J P (.DK id k) .ret st=J P k .ret st:=nd rfl
theorem Abu:J P (.DK id k) (.exit i) st=if i=id then J P k .normal st else J P k (.exit i) st:=nd rfl
theorem o4:J P (.lp x n k) .normal st=L P x k n st:=nd rfl
theorem Ap2:J P (.lp x n k) .ret st=J P k .ret st:=nd rfl
theorem Ai9:J P (.lp x n k) (.exit i) st=J P k (.exit i) st:=nd rfl
theorem Ays:O P s ops [] k st=J P k .normal st:=nd rfl
theorem Avo:O P s ops (o::rest) k st=Gu P s ops rest k o st (Kl st ops o.guard):=by
 unfold O Gu Kl;simp only[U3,FT];cases o.guard with
 | none=>rfl
 | some g=>
   obtain ⟨j,want⟩:=g;simp only;cases ((ops[j]?).bind (·.dst)).bind (get st.env) with
   | none=>rfl
   | some d=>
     cases d with
     | p q=>cases q<;>rfl
     | Dr cs=>cases cs<;>rfl
     | _=>rfl
theorem Avr:Gu P s ops rest k o st .yes=Do P s ops rest k o st:=nd rfl
theorem Ayu:Gu P s ops rest k o st .no=O P s ops rest k (st.put o.dst (.Dr [])):=nd rfl
theorem Arz:Gu P s ops rest k o st (.cond true)=Do P s ops rest k o st:=by simp[Gu]
theorem Ap5:Gu P s ops rest k o st (.cond false)=O P s ops rest k (st.put o.dst (.Dr [])):=by simp[Gu]
theorem Ayz:Do P s ops rest k o st=match De o.op with
   | some (f,args)=>Cl P s ops rest k o st (G9 st f args)
   | none=>Af P s ops rest k o st (Kn P st o):=by
 unfold Do QK Cl Af;cases De o.op<;>rfl
theorem Aw4(p:Prop)(d:D)(h:Hp):Af P s ops rest k o st (.ret p (d,h))=(p/\O P s ops rest k (({st with hp:=h}:St).put o.dst d)):=nd rfl
theorem As8(r r2:Rs (D×Hp)):Af P s ops rest k o st (.split true r r2)=Af P s ops rest k o st r:=by simp[Af,Rs.JO]
theorem Apd(r r2:Rs (D×Hp)):Af P s ops rest k o st (.split false r r2)=Af P s ops rest k o st r2:=by simp[Af,Rs.JO]
theorem As5:Cn P x y k st (.p (.bool true))=X P x k st:=by simp[Cn]
theorem Apa:Cn P x y k st (.p (.bool false))=X P y k st:=by simp[Cn]
theorem Cv(h1:b=true->X P x k st)(h2:b=false->X P y k st):Cn P x y k st (.p (.bool b)):=⟨h1,h2⟩
def Sm(P:Program)(s:Bool)(ops rest:List Oper)(k:Kt)(o:Oper)(st:St):Prop:=s=true/\Ou P o (O P s ops rest k) st
def Ck(P:Program)(s:Bool)(ops rest:List Oper)(k:Kt)(dst:Option Nat)(st:St)(f:FuncId)(ds:List D)(h:Hp)(T:List Nat)(S:Prop):Prop:=
 (B1 P f (Hz (idx T base) ds) (sub h (idx T base) base T) λ h' r=>fresh (dst.getD 0) h h'/\O P s ops rest k (({st with hp:=merge T (dst.getD 0) h h'}:St).put dst (r.D8 (back T (dst.getD 0)))))∨S
theorem Aw3(p:Prop)(f:FuncId)(ds:List D)(h:Hp):Cl P s ops rest k o st (.ret p (f,ds,h))=
   (p/\(DJ h (Du ds)).Nodup/\((DJ h (Du ds)).all λ id=>(get h id).isSome)=true/\Ck P s ops rest k o.dst st f ds h (DJ h (Du ds)) (Sm P s ops rest k o st)):=nd rfl
def En(P:Program)(h0:List Nat)(R:Hp->D->Prop)(hp:Hp)(r:Rs (List D)):Prop:=r.all λ ds=>Uq h0 hp (WY ds) R
theorem Aia(rs:List ResultVar)(h0:List Nat)(R:Hp->D->Prop):J P (.fin rs h0 R) .ret st=En P h0 R st.hp (Xc P st rs):=nd rfl
theorem X6(rs:List ResultVar)(h0:List Nat)(R:Hp->D->Prop):J P (.fin rs h0 R) .normal st=En P h0 R st.hp (Xc P st rs):=nd rfl
theorem Aw2(h0:List Nat)(R:Hp->D->Prop)(hp:Hp)(p:Prop)(ds:List D):En P h0 R hp (.ret p ds)=(p/\Uq h0 hp (WY ds) R):=nd rfl
theorem Anp{h0:List Nat}{hp:Hp}{d:D}{R:Hp->D->Prop}(h:Pu h0 hp d R):Uq h0 hp d R:= .inl h
theorem Ah5{h0:List Nat}{hp:Hp}{d:D}{R:Hp->D->Prop}(h:(C4 hp d).all λ x=>Pu h0 x.2 x.1 R):Uq h0 hp d R:= .inr (RD (k:=λ d h=>Pu h0 h d R) h)
theorem B0{f:FuncId}{fn:Func}{code:Code}{args:List D}{h:Hp}{R:Hp->D->Prop}(hf:P.funcs[f]?=some fn)(hb:fn.body=some code)(T5:Enters P f)
   (hn:args.length<=fn.ntmps) (hw:X P code (.fin fn.results.toList (h.map (·.1)) R) ⟨Sf 0 args,h,fn.ntmps⟩):B1 P f args h R:=by
 refine Aig hf hb T5 hn (λ e st h1=>?_) hw;cases e<;>first
   | exact Tk h1
   | exact h1.elim
theorem B2{x:Int}(h0:-9223372036854775808<=x)(h1:x<=9223372036854775807):IntKind.i64.wrap x=x:=by rw[IntKind.wrap_i64];omega
attribute [go_sem] Avh Arw Ayq Avj Avi Ayp Avk Arx Aou X5 Ai7 Abt Abs X7 Aib Abu o4 Ap2 Ai9 Ays Avo Avr Ayu Arz Ap5 Ayz Aw4 As8 Apd As5 Apa Aw3 Aia X6 Aw2 Kl De G9 Kn J7 Lz E9 Aai SJ C4 FV UM W2 Nc J9 S7 Vb Ik Qf UH HO Ea Xt GV XK GW Ad3 Acb unR Arn Ad4 MJ Q1 VV Xc Rs.bind Rs.and get ev St.put Cy WY I2 N0 D.one D.cells D.stored TK.isAgg chunk froze Sf GO Lv Du D.ids ghost Rr DJ Fy IN AO.ids idx sub Abh
attribute [go_sem] FH Atv TK.Aqj D.Ako Xi List.isEmpty_cons List.isEmpty_nil Bool.and_false Bool.false_and Option.some.injEq reduceCtorEq if_true if_false
attribute [go_sem] Un Nd L4 npT D.Vf List.any_cons List.any_nil Bool.or_self Bool.false_or Bool.or_false Bool.true_or Bool.or_true Bool.false_eq_true
attribute [go_sem] List.getElem?_toArray List.size_toArray true_and and_true Option.getD_some Option.getD_none Nat.zero_add List.map_cons List.map_nil Option.bind_some Option.bind_none List.getElem?_cons_zero List.getElem?_cons_succ List.getElem?_nil List.length_cons List.length_nil List.cons_append List.nil_append List.append_nil List.all_cons List.all_nil Bool.and_self Option.isSome_some List.nodup_nil List.drop_zero List.take_zero List.drop_succ_cons List.take_succ_cons List.drop_nil List.take_nil beq_self_eq_true beq_true beq_false Bool.not_true Bool.not_false Option.map_some Option.map_none Bool.true_and Bool.and_true List.replicate_succ List.replicate_zero ne_eq not_false_eq_true not_true_eq_false and_self
end
end Go.Am
namespace Go.Am
open Go
def Oh(o:Op):Bool:=
 match o with
 | .call c=>match c.callee with
   | .builtin .len | .builtin .min | .builtin .max=>true
   | _=>false
 | .alloc _ | .box _ _ | .store _ _ _ | .buildSlice _ _ _ | .makeSlice _ _ _ | .makeMap _ _ | .mapUpdate _ _ _ _=>false
 | _=>true
section
variable {P:Program} {c:Ctx} {st:St} {a:Act} {w:World} {F:Nat->Prop} {M:Nat->Mb}
theorem Aev(hr:Rel c st a w F M){o:Oper}(hv:Oh o.op=true){K:St->Prop}(h:QK P false o K st):
   ∃d v,K (st.put o.dst d)/\DR F w M (sg st.hp) d v/\(execOp a.eval o).run P w= .ok (.value v) w:=by
 have hn:De o.op=none:=by
   cases ho:o.op<;>simp only[ho,Oh] at hv<;>simp only[De];rename_i cl;cases hc:cl.callee<;>simp only[hc] at hv
   . exact (AJ hv).elim
   . rfl
   . rfl
 unfold QK at h;rw[hn] at h;simp only at h;rcases Rs.Gl h with h | h
 case inr=>exact (AJ h.1).elim
 unfold Kn at h;split at h
 . rename_i cl ho;rw[ho] at hv;split at h
   . rename_i b hb;have hbb:=LS (k:=λ d h=>K (({st with hp:=h}:St).put o.dst d)) h;simp only[Oh,hb] at hv;unfold Ng at hbb;generalize hl:cl.args.toList.map (ev st)=l at hbb;split at hbb
     . obtain ⟨xq,Iv,rfl⟩:=Y8 hl;split at hbb
       case h_2=>exact hbb.elim
       rename_i t ht;obtain ⟨d,v,h1,h2,h3⟩:=TH (P:=P) hbb (Ci hr xq) cl.argTypes o.type ht;exact ⟨d,v,h1,h2,by simp[execOp,ho,hb,resolve,invoke,builtin,Iv,h3]⟩
     . simp at hv
     . simp at hv
     . obtain ⟨d,h',v,w',M',hk,J2,hd,Dy⟩:=Nf hr ho hb (LS (k:=λ d h=>K (({st with hp:=h}:St).put o.dst d)) h);rename_i k1 x k2 y;obtain ⟨xq,yq,Iv,hx,hy⟩:=Io hl;obtain ⟨rfl,hk⟩:=hbb;have h1:=Ci hr xq;have h2:=Ci hr yq;rw[hx] at h1;rw[hy] at h2;generalize Mk:a.eval xq=vx at h1;generalize hvy:a.eval yq=vy at h2;cases h1 with | p h1=>cases h1;cases h2 with | p h2=>
         cases h2;exact ⟨_,_,hk,.p (.int _ _),by simp[execOp,ho,hb,resolve,invoke,builtin,Iv,Mk,hvy,run_min_int2]⟩
     . rename_i k1 x k2 y;obtain ⟨xq,yq,Iv,hx,hy⟩:=Io hl;obtain ⟨rfl,hk⟩:=hbb;have h1:=Ci hr xq;have h2:=Ci hr yq;rw[hx] at h1;rw[hy] at h2;generalize Mk:a.eval xq=vx at h1;generalize hvy:a.eval yq=vy at h2;cases h1 with | p h1=>cases h1;cases h2 with | p h2=>
         cases h2;exact ⟨_,_,hk,.p (.int _ _),by simp[execOp,ho,hb,resolve,invoke,builtin,Iv,Mk,hvy,run_max_int2]⟩
     . exact hbb.elim
   . exact h.elim
 . rename_i ho;rw[ho] at hv;simp[Oh] at hv
 . rename_i ho;rw[ho] at hv;simp[Oh] at hv
 . rename_i ho;rw[ho] at hv;simp[Oh] at hv
 . rename_i ho;rw[ho] at hv;simp[Oh] at hv
 . rename_i ho;rw[ho] at hv;simp[Oh] at hv
 . rename_i ho;rw[ho] at hv;simp[Oh] at hv
 . rename_i ho;rw[ho] at hv;simp[Oh] at hv
 . have h1:=Yz (Rs.Cg (λ d hd=>hd.2) (Rs.all_bind h));exact VE hr h1
end
end Go.Am
namespace Go.Am
open Go
mutual
theorem QS {ρ:Nat->Option Nat}:∀{d:D},(∀id∈d.ids,ρ id=some id)->d.D8 ρ=d
  | .p _,_=>rfl
  | .agg cs,h=>by simp only[D.D8];rw[Pv (cs:=cs) h]
  | .Dr cs,h=>by simp only[D.D8];rw[Pv (cs:=cs) h]
  | .cl _,_=>rfl
  | .cz _,_=>rfl
  | .ref id _ _ _,h=>by simp only[D.D8];rw[h id (by simp[D.ids])]
  | .ptr id _,h=>by simp only[D.D8];rw[h id (by simp[D.ids])]
  | .pe _,_=>rfl
  | .ea id _ _ _,h=>by simp only[D.D8];rw[h id (by simp[D.ids])]
  | .fn f cs,h=>by simp only[D.D8];rw[Pv (cs:=cs) h]
  | .np,_=>rfl
  | .mv id,h=>by simp only[D.D8];rw[h id (by simp[D.ids])]
  | .Dt id _,h=>by simp only[D.D8];rw[h id (by simp[D.ids])]
  | .MG id _ _,h=>by simp only[D.D8];rw[h id (by simp[D.ids])]
  | .nr id _ _ _,h=>by simp only[D.D8];rw[h id (by simp[D.ids])]
  | .Sq,_=>rfl
  | .bad,_=>rfl
theorem Pv {ρ:Nat->Option Nat}:∀{cs:List D},(∀id∈Du cs,ρ id=some id)->Hz ρ cs=cs
  | [],_=>rfl
  | d::r,h=>by
    simp only[Hz];rw[QS (d:=d) (λ id hi=>h id (by simp[Du,hi])),Pv (cs:=r) (λ id hi=>h id (by simp[Du,hi]))]
end
def QF(env:List (Nat×D)):List (Nat×D)->Prop
 | []=>True
 | (t,d)::r=>get env t=some d/\QF env r
def C3(h:Hp):Hp->Prop
 | []=>True
 | (id,o)::r=>get h id=some o/\C3 h r
def DH:List (Nat×D)->List Nat
 | []=>[]
 | (_,d)::r=>d.ids++DH r
def Ek:Hp->List Nat
 | []=>[]
 | (_,o)::r=>o.ids++Ek r
def EV(h1:Hp):Hp->Prop
 | []=>True
 | (id,o)::r=>(base<=id->get h1 id=some o)/\EV h1 r
def Le(st st1:St):Prop:=
 st1.n=st.n/\QF st.env st1.env/\C3 st.hp st1.hp/\((DH st1.env++Ek st1.hp).all λ id=>(get st1.hp id).isSome)=true/\EV st1.hp st.hp
theorem QF.spec{env:List (Nat×D)}:∀{e1:List (Nat×D)},QF env e1->∀t d,get e1 t=some d->get env t=some d
 | [],_,t,d,h=>by simp[get] at h
 | (k,x)::r,hl,t,d,h=>by
   rw[Ct] at h;split at h
   . rename_i e;subst e;cases h;exact hl.1
   . exact hl.2.spec t d h
theorem C3.spec{h:Hp}:∀{h1:Hp},C3 h h1->∀id o,get h1 id=some o->get h id=some o
 | [],_,t,d,hg=>by simp[get] at hg
 | (k,x)::r,hl,t,d,hg=>by
   rw[Ct] at hg;split at hg
   . rename_i e;subst e;cases hg;exact hl.1
   . exact hl.2.spec t d hg
theorem EV.spec{h1:Hp}:∀{h:Hp},EV h1 h->∀id o,base<=id->get h id=some o->get h1 id=some o
 | [],_,t,d,_,hg=>by simp[get] at hg
 | (k,x)::r,hl,t,d,hb,hg=>by
   rw[Ct] at hg;split at hg
   . rename_i e;subst e;cases hg;exact hl.1 hb
   . exact hl.2.spec t d hb hg
theorem Uo:∀{env:List (Nat×D)} {t:Nat} {d:D} {id:Nat},get env t=some d->id∈d.ids->id∈DH env
 | [],t,d,id,h,_=>by simp[get] at h
 | (k,x)::r,t,d,id,h,hi=>by
   rw[Ct] at h;simp only[DH,Av];split at h
   . cases h;exact .inl hi
   . exact .inr (Uo h hi)
theorem Ri:∀{h:Hp} {j:Nat} {o:AO} {id:Nat},get h j=some o->id∈o.ids->id∈Ek h
 | [],t,d,id,h,_=>by simp[get] at h
 | (k,x)::r,t,d,id,h,hi=>by
   rw[Ct] at h;simp only[Ek,Av];split at h
   . cases h;exact .inl hi
   . exact .inr (Ri h hi)
theorem AO.QS{ρ:Nat->Option Nat}{o:AO}(h:∀id∈o.ids,ρ id=some id):o.D8 ρ=o:=by
 cases o with
 | box cs ty=>simp only[AO.D8];rw[Pv (cs:=cs) h]
 | _=>rfl
theorem Wk.refl(st:St):Wk st st:=λ _ _ _ F M h=>⟨F,M,h⟩
theorem Wk.trans{a b c:St}(h:Wk a b)(h':Wk b c):Wk a c:=λ x y w F M hr=>let ⟨F1,M1,h1⟩:=h x y w F M hr;h' x y w F1 M1 h1
theorem Rel.forget{c:Ctx}{st st1:St}{a:Act}{w:World}{F:Nat->Prop}{M:Nat->Mb}(hr:Rel c st a w F M)(h:Le st st1):Rel c st1 a w F M:=by
 have hc:=hr.CR.s0b;obtain ⟨hn,hE,hH,Aur,hK⟩:=h;have Oi:∀id,id∈DH st1.env++Ek st1.hp->∃o,get st1.hp id=some o:=λ id hi=>Bu.1 (AB.1 Aur id hi)
 let ρ:Nat->Option Nat:=λ id=>if (get st1.hp id).isSome then some id else none
 have hρ:∀id j,ρ id=some j->sg st.hp id≠none->M j=M id/\sg st1.hp j=sg st.hp id:=by
   intro id j hj _;simp only[ρ] at hj;split at hj
   . rename_i hs;simp only[An] at hj;subst hj;obtain ⟨o,ho⟩:=Bu.1 hs;refine ⟨rfl,?_⟩;simp[sg,ho,hH.spec _ _ ho]
   . cases hj
 have hid:∀id,(∃o,get st1.hp id=some o)->ρ id=some id:=λ id ⟨o,ho⟩=>by simp[ρ,ho]
 constructor
 . intro t d ht;have:=(hr.env t d (hE.spec t d ht)).D8 (M':=M) hρ;rwa[QS (λ id hi=>hid id (Oi id (BM _ (Uo ht hi))))] at this
 . rw[hn];exact hr.size
 . exact hr.defers
 . constructor
   . intro id o ho;have:=(hr.heap.obj id o (hH.spec id o ho)).D8 (M':=M) hρ;rwa[AO.QS (λ i hi=>hid i (Oi i (List.mem_append_right _ (Ri ho hi))))] at this
   . intro id o Pk o' b ho NH CN El;exact hr.heap.inj id o Pk o' b (hH.spec _ _ ho) (hH.spec _ _ NH) CN El
 . have hk:=hr.CR;refine ⟨hk.os,hk.tape,hk.output,hk.size,hk.NA,hk.F0,hk.Fn,hk.Fl,?_,?_,hk.s0b⟩
   . rintro b ⟨id,o,ho,CN⟩;exact hk.own _ ⟨id,o,hH.spec _ _ ho,CN⟩
   . have G4:=hk.W5;have Cu:∀id,c.s0 id≠none->sg st.hp id≠none->sg st1.hp id=sg st.hp id:=by
       intro id h0 h1;have hb:=hc id h0;cases ho:get st.hp id with
       | none=>exact (h1 (by simp[sg,ho])).elim
       | some o=>simp[sg,ho,hK.spec id o hb ho]
     refine ⟨λ id hi=>?_,λ id sz n hi=>?_,λ id sz n kk hi=>?_⟩
     . obtain ⟨h1,h2⟩:=G4.1 id hi;exact ⟨by rw[Cu id (by rw[hi];simp) (by rw[h1];simp)];exact h1,h2⟩
     . obtain ⟨n',h1,h2,h3⟩:=G4.2.1 id sz n hi;exact ⟨n',by rw[Cu id (by rw[hi];simp) (by rw[h1];simp)];exact h1,h2,h3⟩
     . obtain ⟨n',k',h1,h2⟩:=G4.2.2 id sz n kk hi;exact ⟨n',k',by rw[Cu id (by rw[hi];simp) (by rw[h1];simp)];exact h1,h2⟩
theorem Wk.forget{st st1:St}(h:Le st st1):Wk st st1:=λ _ _ _ F M hr=>⟨F,M,hr.forget h⟩
section
variable {P:Program} {st:St} {x:Code} {k:Kt}
theorem Wk.nil{t q sz:Nat}(e:TypeId)(ht:get st.env t=some (.cl []))(hq:get st.hp q=none)(hs:0<sz):Wk st ⟨(t,.ref q 0 0 0)::st.env,(q,.arr e sz [])::st.hp,st.n⟩:=by
 intro c a w F M hr;obtain ⟨Hy,h1⟩:=hr.Ty (e:=e) hq hs;refine ⟨F,_,⟨λ j d hj=>?_,Hy.size,Hy.defers,Hy.heap,Hy.CR⟩⟩;rw[Ct] at hj;split at hj
 . rename_i e1;subst e1;cases hj;have h2:=hr.env _ _ ht;generalize a.tmps.getD t undef=v at h2;cases h2 with | cl _ ad _ _=>exact h1 ad
 . exact Hy.env j d hj
theorem Ai6{st1:St}{n:Nat}(hw:Wk st st1)(h:L P x k n st1):L P x k n st:=by
 cases n with
 | zero=>exact h.elim
 | succ n=>obtain ⟨st2,h1,h2⟩:=h;exact ⟨st2,hw.trans h1,h2⟩
theorem B4{β:Type}(S:β->St)(I:β->Prop)(μ:β->Nat)(b0:β)(h0:I b0)(hw:Wk st (S b0))
   (hs:∀b n,I b->(∀b' st',I b'->μ b'<μ b->Wk st' (S b')->L P x k n st')->X P x (.lp x n k) (S b)):X P (.loop x) k st:=by
 have key:∀n b,I b->μ b<n->L P x k n (S b):=by
   intro n
   induction n with
   | zero=>intro b _ h;exact (AZ _ h).elim
   | succ n ih=>
     intro b hb hm;exact ⟨S b,Wk.refl _,hs b n hb λ b' st' SD Cr Hb=>Ai6 Hb (ih b' SD (by omega))⟩
 exact X4 _ (Ai6 hw (key (μ b0+1) b0 h0 (Nat.lt_succ_self _)))
end
end Go.Am
namespace Go.Am
open Go
def Rt(h0:List Nat)(hp:Hp)(d:D)(R:Hp->D->Prop)(T:List Nat):Prop:=
 T.Nodup/\(T.all λ id=>(get hp id).isSome)=true/\(h0.all λ id=>base<=id&&T.contains id)=true/\(T.filter (· <base)).length<=base/\
 R (pick hp (OG T) T) (d.D8 (OG T))
theorem Apx(h0:List Nat)(hp:Hp)(d:D)(R:Hp->D->Prop):Pu h0 hp d R=Rt h0 hp d R (DJ hp (h0++d.ids)):=nd rfl
def Ep(h0:List Nat)(R:Hp->D->Prop)(r:Rs (D×Hp)):Prop:=r.all λ x=>Pu h0 x.2 x.1 R
theorem Aw1(h0:List Nat)(R:Hp->D->Prop)(p:Prop)(d:D)(h:Hp):Ep h0 R (.ret p (d,h))=(p/\Pu h0 h d R):=nd rfl
theorem BX{h0:List Nat}{hp:Hp}{d:D}{R:Hp->D->Prop}(h:Ep h0 R (C4 hp d)):Uq h0 hp d R:=Ah5 h
theorem Cm{h0:List Nat}{hp:Hp}{d:D}{R:Hp->D->Prop}(h:Pu h0 hp d R):Uq h0 hp d R:=Anp h
theorem Av3(h0:List Nat)(hp:Hp)(x:Pd)(R:Hp->D->Prop):Uq h0 hp (.p x) R=Pu h0 hp (.p x) R:=by
 unfold Uq;simp only[Fh,bor,or_self]
attribute [go_sem] Apx Aw1 Av3 D.D8 Hz
end Go.Am
end
