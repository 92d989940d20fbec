/- Texts of this proof, what it rests on, merged: part B. -/
import Derived.LoopN
import Derived.Scope
import Derived.Deep.Quiet
import Derived.Test.YtjbklifaekjilaaGreatDoorBrA
section
set_option linter.unusedVariables false
set_option linter.unusedSimpArgs false
namespace Go.Am
open Go
def bor(h:Hp)(d:D)(k:D->Hp->Prop):Prop:=
 match d with
 | .ref id off len N=>match get h id with
   | some (.arr _ _ es)=>N=es.length/\k (.p (.sl ((es.drop off).take len))) (froze h id)
   | some (.LG _ es)=>N=es.length/\k (.p (.sl ((es.drop off).take len))) h
   | _=>False
 | .Di id n=>match get h id with
   | some (.Dj _ _ sz kk rows none)=>n=rows.length/\k (.p (.sl (rows.map λ r=>[.sl r]))) (Cw h id (.Fi (IK (.Dj sz rows.length kk))))
   | _=>False
 | .cl es=>k (.p (.sl es)) h
 | d=>k d h
mutual
def Fj (h:Hp) (d:D) (k:D->Hp->Prop):Prop:=
  match d with
  | .agg cs=>P9 h cs λ ds h'=>k (.agg ds) h'
  | .Dg cs=>P9 h cs λ ds h'=>k (.Dg ds) h'
  | d=>bor h d k
def P9:Hp->List D->(List D->Hp->Prop)->Prop
  | h,[],k=>k [] h
  | h,d::r,k=>Fj h d λ x h'=>P9 h' r λ xs h''=>k (x::xs) h''
end
def Ak7(P:Program)(h:Hp)(t:TypeId)(x:D)(k:D->Prop):Prop:=
 match CC P t with
 | some ti=>match ti.k,x with
   | .string,.p (.str l)=>k (.p (.int .i64 l.length))
   | .slice _,.p (.sl es)=>k (.p (.int .i64 es.length))
   | .slice _,.cl es=>k (.p (.int .i64 es.length))
   | .slice _,.ref id _ len N=>(match sg h id with | some (.arr _ m)=>N=m | _=>False)/\k (.p (.int .i64 len))
   | .slice _,.Di _ n=>k (.p (.int .i64 n))
   | .slice _,.nr _ _ len _=>k (.p (.int .i64 len))
   | .array n _,_=>k (.p (.int .i64 n))
   | _,_=>False
 | none=>False
def MO(P:Program)(st:St)(q:Nat)(b:Builtin)(ts:Array TypeId)(args:List D)(k:D->Hp->Prop):Prop:=
 match b,args with
 | .len,[x]=>match ts[0]? with
   | some t=>Ak7 P st.hp t x λ d=>k d st.hp
   | none=>False
 | .append,[s,x]=>match ts[0]?,ts[1]? with
   | some t,some t2=>n7 P st.hp q t t2 s x k
   | _,_=>False
 | .copy,[s,x]=>match ts[0]?,ts[1]? with
   | some t,some _=>b9 P st.hp t s x k
   | _,_=>False
 | .min,[.p (.int k1 x),.p (.int k2 y)]=>k1=k2/\k (.p (.int k1 (if y<x then y else x))) st.hp
 | .max,[.p (.int k1 x),.p (.int k2 y)]=>k1=k2/\k (.p (.int k1 (if x<y then y else x))) st.hp
 | _,_=>False
inductive Rs (α:Type) where
 | fail
 | ret (p:Prop) (a:α)
 | split (b:Bool) (x y:Rs α)
def Rs.all{α:Type}:Rs α->(α->Prop)->Prop
 | .fail,_=>False
 | .ret p a,k=>p/\k a
 | .split b x y,k=>WM b (x.all k) (y.all k)
def Rs.and{α:Type}(p:Prop):Rs α->Rs α
 | .fail=> .fail
 | .ret q a=> .ret (p/\q) a
 | .split b x y=> .split b (x.and p) (y.and p)
def Rs.bind{α β:Type}:Rs α->(α->Rs β)->Rs β
 | .fail,_=> .fail
 | .ret p a,f=>(f a).and p
 | .split b x y,f=> .split b (x.bind f) (y.bind f)
theorem WM.mono{b:Bool}{x y x' y':Prop}(h:WM b x y)(hx:x->x')(hy:y->y'):WM b x' y':=⟨λ e=>hx (h.1 e),λ e=>hy (h.2 e)⟩
def Rs.JD{α:Type}(S:Prop):Rs α->(α->Prop)->Prop
 | .fail,_=>S
 | .ret p a,k=>p/\k a
 | .split b x y,k=>WM b (x.JD S k) (y.JD S k)
theorem Rs.F5{α:Type}{S:Prop}{k:α->Prop}:∀{r:Rs α},r.JD S k->r.all k∨S
 | .fail,h=> .inr h
 | .ret p a,h=> .inl h
 | .split b x y,h=>by
   cases b
   . rcases Rs.F5 (h.2 rfl) with h1 | h1
     . exact .inl ⟨λ e=>(AI e).elim,λ _=>h1⟩
     . exact .inr h1
   . rcases Rs.F5 (h.1 rfl) with h1 | h1
     . exact .inl ⟨λ _=>h1,λ e=>(AI e.symm).elim⟩
     . exact .inr h1
theorem Rs.EA{α:Type}{p:Prop}{k:α->Prop}:∀{r:Rs α},(r.and p).all k->p/\r.all k
 | .fail,h=>h.elim
 | .ret q a,h=>⟨h.1.1,h.1.2,h.2⟩
 | .split b x y,h=>by
   have h1:b=true->p/\x.all k:=λ e=>Rs.EA (h.1 e);have h2:b=false->p/\y.all k:=λ e=>Rs.EA (h.2 e);refine ⟨?_,λ e=>(h1 e).2,λ e=>(h2 e).2⟩;cases b
   . exact (h2 rfl).1
   . exact (h1 rfl).1
theorem Rs.Ce{α:Type}{k k':α->Prop}(hk:∀a,k a->k' a):∀{r:Rs α},r.all k->r.all k'
 | .fail,h=>h.elim
 | .ret q a,h=>⟨h.1,hk _ h.2⟩
 | .split b x y,h=>WM.mono h (Rs.Ce hk) (Rs.Ce hk)
theorem Rs.all_bind{α β:Type}{f:α->Rs β}{k:β->Prop}:∀{r:Rs α},(r.bind f).all k->r.all (λ a=>(f a).all k)
 | .fail,h=>h.elim
 | .ret p a,h=>Rs.EA h
 | .split b x y,h=>WM.mono h Rs.all_bind Rs.all_bind
def VJ(ti:TI)(cs:List D)(off:Nat):Rs D:=
 if ti.k.isAgg then .ret (off+ti.size<=cs.length) (.agg ((cs.drop off).take ti.size))
 else match cs[off]? with
   | some d=> .ret True d
   | none=> .fail
theorem QK{ti:TI}{cs:List D}{off:Nat}{k:D->Prop}(h:(VJ ti cs off).all k):Ti ti cs off k:=by
 unfold VJ at h;unfold Ti;split at h
 . rename_i e;rw[if_pos e];exact h
 . rename_i e;rw[if_neg e];split at h<;>simp_all [Rs.all]
def QL(ti:TI)(cs:List Pd)(off:Nat):Rs D:=
 if ti.k.isAgg then .ret (off+ti.size<=cs.length) (.agg (((cs.drop off).take ti.size).map D.p))
 else match cs[off]? with
   | some d=> .ret True (.p d)
   | none=> .fail
theorem Oj{ti:TI}{cs:List Pd}{off:Nat}{k:D->Prop}(h:(QL ti cs off).all k):RL ti cs off k:=by
 unfold QL at h;unfold RL;split at h
 . rename_i e;rw[if_pos e];exact h
 . rename_i e;rw[if_neg e];split at h<;>simp_all [Rs.all]
def Mi(P:Program)(h:Hp)(t:TypeId)(d:D):Rs D:=
 match CC P t,d with
 | some ti,.ptr id off=>match get h id with
   | some (.box cs _)=>VJ ti cs off
   | _=> .fail
 | some ti,.pe cs=>QL ti cs 0
 | some ti,.ea id i c N=>match get h id with
   | some (.arr _ _ es)=>(QL ti (es.getD i []) c).and (N=es.length)
   | some (.LG _ es)=>(QL ti (es.getD i []) c).and (N=es.length)
   | _=> .fail
 | some ti,.LL id i n=>match get h id with
   | some (.Dj _ _ _ kk rows hole)=> .ret (n=rows.length/\hole≠some i/\ti.k.isAgg=false) (.nr id i (rows.getD i []).length kk)
   | _=> .fail
 | _,_=> .fail
theorem VT{P:Program}{h:Hp}{t:TypeId}{d:D}{k:D->Prop}(hh:(Mi P h t d).all k):VU P h t d k:=by
 unfold Mi at hh;unfold VU;split at hh
 . rename_i h1;simp only[h1];split at hh
   . rename_i h2;simp only[h2];exact QK hh
   . exact hh.elim
 . rename_i h1;simp only[h1];exact Oj hh
 . rename_i h1;simp only[h1];split at hh
   . rename_i h2;simp only[h2];exact ⟨(Rs.EA hh).1,Oj (Rs.EA hh).2⟩
   . rename_i h2;simp only[h2];exact ⟨(Rs.EA hh).1,Oj (Rs.EA hh).2⟩
   . exact hh.elim
 . rename_i h1;simp only[h1];split at hh
   . rename_i h2;simp only[h2];exact hh
   . exact hh.elim
 . exact hh.elim
def Arm(op:BinOp)(x y:D):Rs D:=
 match op,x,y with
 | .add,.p (.int k1 a),.p (.int k2 b)=> .ret (k1=k2) (.p (.int k1 (k1.wrap (a+b))))
 | .sub,.p (.int k1 a),.p (.int k2 b)=> .ret (k1=k2) (.p (.int k1 (k1.wrap (a - b))))
 | .mul,.p (.int k1 a),.p (.int k2 b)=> .ret (k1=k2) (.p (.int k1 (k1.wrap (a*b))))
 | .quo,.p (.int k1 a),.p (.int k2 b)=> .ret (k1=k2/\b≠0) (.p (.int k1 (k1.wrap (a.tdiv b))))
 | .rem,.p (.int k1 a),.p (.int k2 b)=> .ret (k1=k2/\b≠0) (.p (.int k1 (a.tmod b)))
 | .eql,.p (.int k1 a),.p (.int k2 b)=> .ret (k1=k2) (.p (.bool (decide (a=b))))
 | .neq,.p (.int k1 a),.p (.int k2 b)=> .ret (k1=k2) (.p (.bool (!decide (a=b))))
 | .lss,.p (.int k1 a),.p (.int k2 b)=> .ret (k1=k2) (.p (.bool (decide (a<b))))
 | .leq,.p (.int k1 a),.p (.int k2 b)=> .ret (k1=k2) (.p (.bool (decide (a<=b))))
 | .gtr,.p (.int k1 a),.p (.int k2 b)=> .ret (k1=k2) (.p (.bool (decide (b<a))))
 | .geq,.p (.int k1 a),.p (.int k2 b)=> .ret (k1=k2) (.p (.bool (decide (b<=a))))
 | .and,.p (.int k1 a),.p (.int k2 b)=> .ret (k1=k2) (.p (.int k1 (k1.wrap (BitVec.ofInt k1.bits a&&& BitVec.ofInt k1.bits b).toNat)))
 | .shr,.p (.int k1 a),.p (.int _ b)=> .ret (0<=b) (.p (.int k1 (a.fdiv (2 ^ (min b.toNat k1.bits)))))
 | .add,.p (.str a),.p (.str b)=> .ret (a.length+b.length<=maxLen) (.p (.str (a++b)))
 | .eql,.p (.str a),.p (.str b)=> .ret True (.p (.bool (decide (a=b))))
 | .neq,.p (.str a),.p (.str b)=> .ret True (.p (.bool (!decide (a=b))))
 | _,_,_=> .fail
theorem Ao7{op:BinOp}{x y:D}{k:D->Prop}(h:(Arm op x y).all k):Arn op x y k:=by
 unfold Arm at h;split at h<;>first
   | exact h.elim
   | exact h
   | exact ⟨h.1.1,h.1.2,h.2⟩
   | exact h.2
def Acz(P:Program)(op:BinOp)(t:TypeId)(x y:D):Rs D:=
 match op,x,y with
 | .eql,.p (.bool a),.p (.bool b)=>(match CC P t with | some ⟨_,_,.bool,_⟩=> .ret True (.p (.bool (a==b))) | _=> .fail)
 | .neq,.p (.bool a),.p (.bool b)=>(match CC P t with | some ⟨_,_,.bool,_⟩=> .ret True (.p (.bool (!(a==b)))) | _=> .fail)
 | .eql,.agg xs,.agg ys=>(match T9 P t xs ys with | some b=> .ret True (.p (.bool b)) | none=> .fail)
 | .neq,.agg xs,.agg ys=>(match T9 P t xs ys with | some b=> .ret True (.p (.bool (!b))) | none=> .fail)
 | .eql,.p (.sl es),.cl []=>(match CC P t with | some ⟨_,_,.slice _,_⟩=> .ret (es≠[]) (.p (.bool false)) | _=> .fail)
 | .eql,.cl es,.cl []=>(match CC P t with | some ⟨_,_,.slice _,_⟩=> .ret True (.p (.bool es.isEmpty)) | _=> .fail)
 | op,x,y=>Arm op x y
theorem Ahv{P:Program}{op:BinOp}{t:TypeId}{x y:D}{k:D->Prop}(h:(Acz P op t x y).all k):MP P op t x y k:=by
 unfold Acz at h;split at h
 . split at h
   . rename_i h1;simp only[MP,h1];exact h.2
   . exact h.elim
 . split at h
   . rename_i h1;simp only[MP,h1];exact h.2
   . exact h.elim
 . split at h
   . rename_i h1;simp only[MP,h1];exact h.2
   . exact h.elim
 . split at h
   . rename_i h1;simp only[MP,h1];exact h.2
   . exact h.elim
 . split at h
   . rename_i h1;simp only[MP,h1];exact h
   . exact h.elim
 . split at h
   . rename_i h1;simp only[MP,h1];exact h.2
   . exact h.elim
 . rename_i n1 n2 n3 n4 n5 n6;have h2:=Ao7 h;unfold MP;split
   . exact (n1 _ _ rfl rfl rfl).elim
   . exact (n2 _ _ rfl rfl rfl).elim
   . exact (n3 _ _ rfl rfl rfl).elim
   . exact (n4 _ _ rfl rfl rfl).elim
   . exact (n5 _ rfl rfl rfl).elim
   . exact (n6 _ rfl rfl rfl).elim
   . exact h2
def unR(op:UnOp)(x:D):Rs D:=
 match op,x with
 | .not,.p (.bool b)=> .ret True (.p (.bool (!b)))
 | .neg,.p (.int kd n)=> .ret True (.p (.int kd (kd.wrap (0 - n))))
 | _,_=> .fail
theorem Ap8{op:UnOp}{x:D}{k:D->Prop}(h:(unR op x).all k):unD op x k:=by
 unfold unR at h;split at h<;>first | exact h.elim | exact h.2
def Ac4(c a b:D):Rs D:=
 match c,a,b with
 | .p (.bool t),.p (.bool x),.p (.bool y)=> .ret True (.p (.bool (if t then x else y)))
 | .p (.bool t),a,b=> .split t (.ret True a) (.ret True b)
 | _,_,_=> .fail
theorem Ae2{c x y:D}{k:D->Prop}(h:(Ac4 c x y).all k):YV c x y k:=by
 unfold Ac4 at h;unfold YV;split at h
 . exact h.2
 . rename_i t a b Dl;split
   . rename_i e1 e2 e3;exact (Dl _ _ rfl rfl).elim
   . rename_i e _;cases e;exact WM.mono h (λ h=>h.2) (λ h=>h.2)
   . rename_i h1 _;exact (h1 _ rfl).elim
 . exact h.elim
def Acy(P:Program)(s d:TypeId)(x:D):Rs D:=
 match CC P s,CC P d,x with
 | some _,some ⟨_,_,.int kd,_⟩,.p (.int _ n)=> .ret True (.p (.int kd (kd.wrap n)))
 | some _,some ⟨_,_,.string,_⟩,.p (.str l)=> .ret True (.p (.str l))
 | some ⟨_,_,.slice e,_⟩,some ⟨_,_,.string,_⟩,.p (.sl es)=>match CC P e,Su es with
   | some ⟨_,_,.int .u8,_⟩,some l=> .ret True (.p (.str l))
   | _,_=> .fail
 | _,_,_=> .fail
theorem Ahg{P:Program}{s d:TypeId}{x:D}{k:D->Prop}(h:(Acy P s d x).all k):j3 P s d x k:=by
 unfold Acy at h;unfold j3;split at h
 . rename_i h1 h2;simp only[h1,h2];exact h.2
 . rename_i h1 h2;simp only[h1,h2];exact h.2
 . rename_i h1 h2;simp only[h1,h2];split at h
   . rename_i h3 h4;simp only[h3,h4];exact h.2
   . exact h.elim
 . exact h.elim
def Ab9(h:Hp)(id N:Nat):Prop:=match sg h id with | some (.arr _ m)=>N=m | _=>False
def GW(P:Program)(t:TypeId)(x:D)(f:Nat)(h:Hp):Rs D:=
 match CC P t with
 | some ⟨_,_,.struct fs,_⟩=>match fs[f]? with
   | some (o,u)=>match CC P u with
     | some ti=>match x with
       | .ptr id off=> .ret (ti.size≠0) (.ptr id (off+o))
       | .pe cs=> .ret (ti.size≠0) (.pe (cs.drop o))
       | .ea id i c N=> .ret (ti.size≠0/\Ab9 h id N) (.ea id i (c+o) N)
       | _=> .fail
     | none=> .fail
   | none=> .fail
 | _=> .fail
theorem T6{P:Program}{t:TypeId}{x:D}{f:Nat}{h:Hp}{k:D->Prop}(hh:(GW P t x f h).all k):Jx P t x f h k:=by
 unfold GW at hh;unfold Jx;split at hh
 . rename_i h1;simp only[h1];split at hh
   . rename_i h2;simp only[h2];split at hh
     . rename_i h3;simp only[h3];split at hh
       . exact hh
       . exact hh
       . exact ⟨hh.1.1,hh.1.2,hh.2⟩
       . exact hh.elim
     . exact hh.elim
   . exact hh.elim
 . exact hh.elim
def XJ(P:Program)(t:TypeId)(x:D)(f:Nat):Rs D:=
 match CC P t with
 | some ⟨_,_,.struct fs,_⟩=>match fs[f]?,x with
   | some (o,u),.agg cs=>match CC P u with
     | some ti=>VJ ti cs o
     | none=> .fail
   | _,_=> .fail
 | _=> .fail
theorem Ab3{P:Program}{t:TypeId}{x:D}{f:Nat}{k:D->Prop}(hh:(XJ P t x f).all k):T5 P t x f k:=by
 unfold XJ at hh;unfold T5;split at hh
 . rename_i h1;simp only[h1];split at hh
   . rename_i h2;simp only[h2];split at hh
     . rename_i h3;simp only[h3];exact QK hh
     . exact hh.elim
   . exact hh.elim
 . exact hh.elim
def GV(P:Program)(t:TypeId)(x i:D)(h:Hp):Rs D:=
 match CC P t,i with
 | some ⟨_,_,.slice e,_⟩,.p (.int _ n)=>match CC P e with
   | some ti=>match x with
     | .p (.sl es)=> .ret ((0<=n/\n<es.length)/\(es.getD n.toNat []).length=ti.size) (.pe (es.getD n.toNat []))
     | .cl es=> .ret ((0<=n/\n<es.length)/\(es.getD n.toNat []).length=ti.size) (.pe (es.getD n.toNat []))
     | .ref id off len N=>match sg h id with
       | some (.arr sz m)=> .ret ((0<=n/\n<len)/\sz=ti.size/\N=m) (.ea id (off+n.toNat) 0 N)
       | _=> .fail
     | .Di id N=> .ret ((0<=n/\n<N)/\ti.size=1) (.LL id n.toNat N)
     | _=> .fail
   | none=> .fail
 | some ⟨_,_,.array m e,_⟩,.p (.int _ n)=>match CC P e,x with
   | some ti,.ptr id off=> .ret (0<=n/\n<m) (.ptr id (off+n.toNat*ti.size))
   | some ti,.pe cs=> .ret (0<=n/\n<m) (.pe (cs.drop (n.toNat*ti.size)))
   | _,_=> .fail
 | _,_=> .fail
theorem TF{P:Program}{t:TypeId}{x i:D}{h:Hp}{k:D->Prop}(hh:(GV P t x i h).all k):Jn P t x i h k:=by
 unfold GV at hh;unfold Jn;split at hh
 . rename_i h1;simp only[h1];split at hh
   . rename_i h2;simp only[h2];split at hh
     . exact ⟨hh.1.1,hh.1.2,hh.2⟩
     . exact ⟨hh.1.1,hh.1.2,hh.2⟩
     . split at hh
       . rename_i h3;simp only[h3];exact ⟨hh.1.1,hh.1.2.1,hh.1.2.2,hh.2⟩
       . exact hh.elim
     . exact ⟨hh.1.1,hh.1.2,hh.2⟩
     . exact hh.elim
   . exact hh.elim
 . rename_i h1;simp only[h1];split at hh
   . rename_i h2;simp only[h2];exact hh
   . rename_i h2;simp only[h2];exact hh
   . exact hh.elim
 . exact hh.elim
def Xr(P:Program)(t:TypeId)(x i:D):Rs D:=
 match CC P t,x,i with
 | some ⟨_,_,.string,_⟩,.p (.str l),.p (.int _ n)=> .ret (0<=n/\n<l.length) (.p (.int .u8 (l.getD n.toNat 0).toNat))
 | some ⟨_,_,.array m e,_⟩,.agg cs,.p (.int _ n)=>match CC P e with
   | some ti=>(VJ ti cs (n.toNat*ti.size)).and (0<=n/\n<m)
   | none=> .fail
 | _,_,_=> .fail
theorem Aao{P:Program}{t:TypeId}{x i:D}{k:D->Prop}(hh:(Xr P t x i).all k):TE P t x i k:=by
 unfold Xr at hh;unfold TE;split at hh
 . rename_i h1;simp only[h1];exact hh
 . rename_i h1;simp only[h1];split at hh
   . rename_i h2;simp only[h2];exact ⟨(Rs.EA hh).1,QK (Rs.EA hh).2⟩
   . exact hh.elim
 . exact hh.elim
def Eh(st:St)(o:Option Operand)(XQ:Int):Rs Int:=
 match o with
 | none=> .ret True XQ
 | some x=>match ev st x with
   | .p (.int _ n)=> .ret True n
   | _=> .fail
theorem Abf{st:St}{o:Option Operand}{n:Int}{k:Int->Prop}(h:(Eh st o n).all k):Ff st o n k:=by
 unfold Eh at h;unfold Ff;split at h
 . exact h.2
 . split at h
   . rename_i h1;simp only[h1];exact h.2
   . exact h.elim
def LI(n:Nat)(es:List (List Pd)):Prop:=∀e∈es,e.length=n
theorem LI.get{n:Nat}{es:List (List Pd)}(h:LI n es):∀(i:Nat) e,es[i]?=some e->e.length=n:=λ _ e he=>h e (AU he)
def HO(P:Program)(st:St)(t:TypeId)(x:D)(lo hi mx:Option Operand):Rs D:=
 match CC P t,x with
 | some ⟨_,_,.string,_⟩,.p (.str l)=>(Eh st lo 0).bind λ a=>(Eh st hi l.length).bind λ b=>
     .ret (mx.isNone=true/\(0<=a/\a<=b/\b<=l.length)) (.p (.str ((l.take b.toNat).drop a.toNat)))
 | some ⟨_,_,.slice e,_⟩,x=>match CC P e with
   | some ti=>match x with
     | .p (.sl es)=>match mx with
       | none=>(Eh st lo 0).bind λ a=>(Eh st hi es.length).bind λ b=> .ret ((0<=a/\a<=b/\b<=es.length)/\LI ti.size es) (.p (.sl ((es.take b.toNat).drop a.toNat)))
       | some m=>(Eh st lo 0).bind λ a=>(Eh st hi es.length).bind λ b=>(Eh st (some m) 0).bind λ c=>
           .ret ((0<=a/\a<=b/\b=c/\c<=es.length)/\LI ti.size es/\hi.isSome=true) (.cz ((es.take b.toNat).drop a.toNat))
     | .ref id off len N=>match sg st.hp id with
       | some (.arr sz m)=>(Eh st lo 0).bind λ a=>(Eh st hi len).bind λ b=>
           .ret (mx.isNone=true/\sz=ti.size/\(0<=a/\a<=b/\b<=len)/\N=m) (.ref id (off+a.toNat) (b - a).toNat N)
       | _=> .fail
     | _=> .fail
   | none=> .fail
 | _,_=> .fail
theorem bd{st:St}{o:Option Operand}{n:Int}{f:Int->Rs D}{k:D->Prop}{k':Int->Prop}(h:((Eh st o n).bind f).all k)(hf:∀a,(f a).all k->k' a):Ff st o n k':=
 Abf (Rs.Ce hf (Rs.all_bind h))
theorem Rx{st:St}{o:Option Operand}{n:Int}{q:Prop}{k:Int->Prop}(h:Ff st o n (λ a=>q/\k a)):q/\Ff st o n k:=by
 unfold Ff at*;cases o with
 | none=>exact h
 | some x=>
   simp only at h ⊢;split at h
   . rename_i h1;exact h
   . exact h.elim
theorem Sc{st:St}{o:Option Operand}{n:Int}{k k':Int->Prop}(hk:∀a,k a->k' a)(h:Ff st o n k):Ff st o n k':=by
 unfold Ff at*;split at h
 . exact hk _ h
 . split at h
   . exact hk _ h
   . exact h.elim
theorem z6{P:Program}{st:St}{t:TypeId}{x:D}{lo hi mx:Option Operand}{k:D->Prop}(hh:(HO P st t x lo hi mx).all k):S1 P st t x lo hi mx k:=by
 unfold HO at hh;unfold S1;split at hh
 . rename_i h1;simp only[h1];refine Rx (bd hh λ a h=>Rx (bd h λ b h=>?_));exact ⟨h.1.1,h.1.2,h.2⟩
 . rename_i h1;split at hh
   case h_2=>exact hh.elim
   rename_i h2;split at hh
   . rw[h1];simp only[h2];split at hh
     . exact bd hh λ a h=>bd h λ b h=>⟨h.1.1,h.1.2.get,h.2⟩
     . exact bd hh λ a h=>bd h λ b h=>bd h λ c h=>⟨h.1.1,h.1.2.1.get,h.1.2.2,h.2⟩
   . rw[h1];simp only[h2];split at hh
     . rename_i h3;simp only[h3];have h4:=bd hh λ a h=>bd h λ b h=>(⟨h.1.1,h.1.2.1,h.1.2.2.1,h.1.2.2.2,h.2⟩:mx.isNone=true/\_/\_/\_/\_);have h5:=Rx (Sc (λ a h=>Rx h) h4);have h6:=Rx (Sc (λ a h=>Rx h) h5.2);exact ⟨h5.1,h6.1,h6.2⟩
     . exact hh.elim
   . exact hh.elim
 . exact hh.elim
def Ur(P:Program)(st:St)(t:TypeId)(parts:List (Nat×Operand)):Rs D:=
 match CC P t with
 | some ⟨_,_,.struct fs,z⟩=>
   match K2 P fs,z with
   | some pl,.agg zs=>match GM (λ i=>pl[i]?) zs (parts.map λ q=>(q.1,ev st q.2)) with
     | some cs=> .ret True (.agg cs)
     | none=> .fail
   | _,_=> .fail
 | some ⟨_,_,.array _ e,z⟩=>
   match CC P e,z with
   | some ti,.agg zs=>match GM (λ i=>some (i*ti.size,ti.size)) zs (parts.map λ q=>(q.1,ev st q.2)) with
     | some cs=> .ret True (.agg cs)
     | none=> .fail
   | _,_=> .fail
 | _=> .fail
theorem Abd{P:Program}{st:St}{t:TypeId}{parts:List (Nat×Operand)}{k:D->Prop}(hh:(Ur P st t parts).all k):Us P st t parts k:=by
 unfold Ur at hh;unfold Us;split at hh
 . rename_i h1;simp only[h1];split at hh
   . rename_i h2;simp only[h2];split at hh
     . rename_i h3;simp only[h3];exact hh.2
     . exact hh.elim
   . exact hh.elim
 . rename_i h1;simp only[h1];split at hh
   . rename_i h2;simp only[h2];split at hh
     . rename_i h3;simp only[h3];exact hh.2
     . exact hh.elim
   . exact hh.elim
 . exact hh.elim
def PU(x:D)(i:Nat):Rs D:=
 match x with
 | .Dg cs=>match cs[i]? with
   | some d=> .ret True d
   | none=> .fail
 | _=> .fail
theorem XL{x:D}{i:Nat}{k:D->Prop}(hh:(PU x i).all k):MD x i k:=by
 unfold PU at hh;unfold MD;split at hh
 . split at hh
   . rename_i h1;simp only[h1];exact hh.2
   . exact hh.elim
 . exact hh.elim
def K7(P:Program)(h:Hp)(t:TypeId)(x i:D)(ok:Bool):Rs D:=
 match mapOf P t,x,i with
 | some (kk,z),.mv id,.p key=>match get h id with
   | some (.mp l)=> .ret (kk.fit key=true/\QS key l) (EL z ok (Tr key l))
   | _=> .fail
 | _,_,_=> .fail
theorem Y4{P:Program}{h:Hp}{t:TypeId}{x i:D}{ok:Bool}{k:D->Prop}(hh:(K7 P h t x i ok).all k):Pr P h t x i ok k:=by
 unfold K7 at hh;unfold Pr;split at hh
 . rename_i h0;simp only[h0];split at hh
   . rename_i h1;simp only[h1];exact hh
   . exact hh.elim
 . exact hh.elim
def J3(P:Program)(h:Hp)(t:TypeId)(m i v:D):Rs Hp:=
 match mapOf P t,m,i,v with
 | some (kk,_),.mv id,.p key,.p x=>match get h id with
   | some (.mp l)=> .ret (kk.fit key=true/\QS key l/\x.flat=true) (Cw h id (.mp (Kq key x l)))
   | _=> .fail
 | _,_,_,_=> .fail
theorem Aa9{P:Program}{h:Hp}{t:TypeId}{m i v:D}{k:Hp->Prop}(hh:(J3 P h t m i v).all k):Tt P h t m i v k:=by
 unfold J3 at hh;unfold Tt;split at hh
 . rename_i h0;simp only[h0];split at hh
   . rename_i h1;simp only[h1];exact hh
   . exact hh.elim
 . exact hh.elim
def JW(P:Program)(st:St)(op:Op):Rs D:=
 match op with
 | .move x | .assign x=> .ret True (ev st x)
 | .pick c a b=>Ac4 (ev st c) (ev st a) (ev st b)
 | .binOp op t x y _=>Acz P op t (ev st x) (ev st y)
 | .unOp op _ x=>unR op (ev st x)
 | .nilCheck x=>match ev st x with
   | .ptr id off=> .ret True (.ptr id off)
   | .pe cs=> .ret True (.pe cs)
   | .ea id i c N=> .ret (Ab9 st.hp id N) (.ea id i c N)
   | _=> .fail
 | .convert s d x=>Acy P s d (ev st x)
 | .build t parts=>Ur P st t parts.toList
 | .load t a=>Mi P st.hp t (ev st a)
 | .slice t x lo hi mx=>HO P st t (ev st x) lo hi mx
 | .fieldAddr t x f=>GW P t (ev st x) f st.hp
 | .field t x f=>XJ P t (ev st x) f
 | .indexAddr t x i=>GV P t (ev st x) (ev st i) st.hp
 | .index t x i=>Xr P t (ev st x) (ev st i)
 | .extract t i=>PU (ev st t) i
 | .lookup t x i ok=>K7 P st.hp t (ev st x) (ev st i) ok
 | .makeFunc (.func f) first cap=> .ret (first.size=0) (.fn f (cap.toList.map (ev st)))
 | _=> .fail
theorem Yz{P:Program}{st:St}{op:Op}{k:D->Prop}(hh:(JW P st op).all k):vOp P st op k:=by
 unfold JW at hh;unfold vOp;split at hh
 . exact hh.2
 . exact hh.2
 . exact Ae2 hh
 . exact Ahv hh
 . exact Ap8 hh
 . split at hh
   . rename_i h1;simp only[h1];exact hh.2
   . rename_i h1;simp only[h1];exact hh.2
   . rename_i h1;simp only[h1];exact hh
   . exact hh.elim
 . exact Ahg hh
 . exact Abd hh
 . exact VT hh
 . exact z6 hh
 . exact T6 hh
 . exact Ab3 hh
 . exact TF hh
 . exact Aao hh
 . exact XL hh
 . exact Y4 hh
 . exact hh
 . exact hh.elim
def UY(h:Hp)(d:D):Rs (Pd×Hp):=
 match d with
 | .p x=> .ret True (x,h)
 | .cl es=> .ret True (.sl es,h)
 | .cz es=> .ret True (.sl es,h)
 | .ref id off len N=>match get h id with
   | some (.arr _ _ es)=> .ret (N=es.length) (.sl ((es.drop off).take len),froze h id)
   | some (.LG _ es)=> .ret (N=es.length) (.sl ((es.drop off).take len),h)
   | _=> .fail
 | .Di id n=>match get h id with
   | some (.Dj _ _ sz kk rows none)=> .ret (n=rows.length) (.sl (rows.map λ r=>[.sl r]),Cw h id (.Fi (IK (.Dj sz rows.length kk))))
   | _=> .fail
 | _=> .fail
theorem Ajl{h:Hp}{d:D}{k:Pd->Hp->Prop}(hh:(UY h d).all (λ x=>k x.1 x.2)):Kl h d k:=by
 unfold UY at hh;unfold Kl;split at hh
 . exact hh.2
 . exact hh.2
 . exact hh.2
 . split at hh
   . rename_i h1;simp only[h1];exact hh
   . rename_i h1;simp only[h1];exact hh
   . exact hh.elim
 . split at hh
   . rename_i h1;simp only[h1];exact hh
   . exact hh.elim
 . exact hh.elim
def Ij:Hp->List D->Rs (List Pd×Hp)
 | h,[]=> .ret True ([],h)
 | h,d::r=>(UY h d).bind λ x=>(Ij x.2 r).bind λ y=> .ret True (x.1::y.1,y.2)
theorem VH{h:Hp}{d:D}{k k':Pd->Hp->Prop}(hk:∀x h,k x h->k' x h)(hh:Kl h d k):Kl h d k':=by
 unfold Kl at*;cases d with
 | p x=>exact hk _ _ hh
 | cl es=>exact hk _ _ hh
 | cz es=>exact hk _ _ hh
 | ref id off len N=>
   simp only at hh ⊢;split at hh
   . exact ⟨hh.1,hk _ _ hh.2⟩
   . exact ⟨hh.1,hk _ _ hh.2⟩
   . exact hh.elim
 | Di id n=>
   simp only at hh ⊢;split at hh
   . exact ⟨hh.1,hk _ _ hh.2⟩
   . exact hh.elim
 | _=>exact hh
theorem K0:∀{ds:List D} {h:Hp} {k k':List Pd->Hp->Prop},(∀x h,k x h->k' x h)->HH h ds k->HH h ds k'
 | [],h,k,k',hk,hh=>hk _ _ hh
 | d::r,h,k,k',hk,hh=>VH (λ x h' h1=>K0 (λ xs h'' h2=>hk _ _ h2) h1) hh
theorem VF:∀{ds:List D} {h:Hp} {k:List Pd->Hp->Prop},(Ij h ds).all (λ x=>k x.1 x.2)->HH h ds k
 | [],h,k,hh=>hh.2
 | d::r,h,k,hh=>by
   simp only[Ij] at hh;exact Ajl (Rs.Ce (λ x h1=>VF (Rs.Ce (λ y h2=>h2.2) (Rs.all_bind h1))) (Rs.all_bind hh))
theorem Oi{ds:List D}{h:Hp}{K:List Pd×Hp->Prop}(hh:(Ij h ds).all K):HH h ds (λ x h=>K (x,h)):=VF (k:=λ x h=>K (x,h)) hh
def SW(h:Hp)(d:D):Rs (List (List Pd)):=
 match d with
 | .p (.sl ys)=> .ret True ys
 | .p (.str l)=> .ret True (D3 l)
 | .cl ys=> .ret True ys
 | .ref id off len N=>match get h id with
   | some (.arr _ _ es)=> .ret (N=es.length) ((es.drop off).take len)
   | some (.LG _ es)=> .ret (N=es.length) ((es.drop off).take len)
   | _=> .fail
 | _=> .fail
theorem YG{h:Hp}{d:D}{k:List (List Pd)->Prop}(hh:(SW h d).all k):LZ h d k:=by
 unfold SW at hh;unfold LZ;split at hh
 . exact hh.2
 . exact hh.2
 . exact hh.2
 . split at hh
   . rename_i h1;simp only[h1];exact hh
   . rename_i h1;simp only[h1];exact hh
   . exact hh.elim
 . exact hh.elim
def WY{α:Type}:Nat->Rs α->Rs α
 | 0,r=>r
 | _+1,_=> .fail
theorem N9{α:Type}{n:Nat}{r:Rs α}{k:α->Prop}(h:(WY n r).all k):n=0/\r.all k:=by
 cases n with
 | zero=>exact ⟨rfl,h⟩
 | succ n=>exact h.elim
theorem Vt{α:Type}{n:Nat}{r:Rs α}{k:α->Prop}(h0:n=0)(h:r.all k):(WY n r).all k:=by
 subst h0;exact h
def Uw(P:Program)(h:Hp)(q:Nat)(t t2:TypeId)(s x:D):Rs (D×Hp):=
 match CC P t,CC P t2 with
 | some ⟨_,_,.slice e,_⟩,some ti2=>match CC P e with
   | some ti=>(SW h x).bind λ ys=>match s with
     | .cl es=> .ret ((match ti2.k with | .slice _=>True | .string=>True | _=>False)/\LI ti.size ys/\0<ti.size/\ti.zero.cells.length=ti.size/\
           get h q=none/\(es=[]∨ys≠[])/\LI ti.size es/\(es.length+ys.length)*ti.bytes<=140737488355328/\es.length+ys.length<=140737488355328)
         (.ref q 0 (es++ys).length (es++ys).length,(q,.arr e ti.size (es++ys))::h)
     | .cz es=> .ret ((match ti2.k with | .slice _=>True | .string=>True | _=>False)/\LI ti.size ys/\0<ti.size/\ti.zero.cells.length=ti.size/\
           get h q=none/\ys≠[]/\LI ti.size es/\(es.length+ys.length)*ti.bytes<=140737488355328/\es.length+ys.length<=140737488355328)
         (.ref q 0 (es++ys).length (es++ys).length,(q,.arr e ti.size (es++ys))::h)
     | .ref id off len N=>WY off (match get h id with
       | some (.arr e' sz es)=> .ret ((match ti2.k with | .slice _=>True | .string=>True | _=>False)/\LI ti.size ys/\0<ti.size/\ti.zero.cells.length=ti.size/\
           off=0/\N=es.length/\len=es.length/\e'=e/\sz=ti.size/\(es.length+ys.length)*ti.bytes<=140737488355328/\es.length+ys.length<=140737488355328)
         (.ref id 0 (es++ys).length (es++ys).length,Cw h id (.arr e sz (es++ys)))
       | _=> .fail)
     | .nr id i len kk=>match get h id with
       | some (.Dj t3 e' sz k2 rows none)=> .ret ((match ti2.k with | .slice _=>True | .string=>True | _=>False)/\LI ti.size ys/\0<ti.size/\ti.zero.cells.length=ti.size/\
           (e'=e/\sz=ti.size/\kk=k2/\len=(rows.getD i []).length/\i<rows.length/\get h q=none)/\(len+ys.length)*ti.bytes<=140737488355328/\len+ys.length<=140737488355328)
         (.ref q 0 (rows.getD i []++ys).length (rows.getD i []++ys).length,(q,.arr e sz (rows.getD i []++ys))::Cw h id (.Dj t3 e' sz (k2+1) rows (some i)))
       | _=> .fail
     | _=> .fail
   | none=> .fail
 | _,_=> .fail
theorem Vu{h:Hp}{d:D}{k k':List (List Pd)->Prop}(hk:∀x,k x->k' x)(hh:LZ h d k):LZ h d k':=by
 unfold LZ at*;split at hh
 . exact hk _ hh
 . exact hk _ hh
 . exact hk _ hh
 . split at hh
   . exact ⟨hh.1,hk _ hh.2⟩
   . exact ⟨hh.1,hk _ hh.2⟩
   . exact hh.elim
 . exact hh.elim
theorem Aiw{h:Hp}{d:D}{q:Prop}{k:List (List Pd)->Prop}(hh:LZ h d (λ ys=>q/\k ys)):q/\LZ h d k:=by
 unfold LZ at*;split at hh
 . exact hh
 . exact hh
 . exact hh
 . split at hh
   . exact ⟨hh.2.1,hh.1,hh.2.2⟩
   . exact ⟨hh.2.1,hh.1,hh.2.2⟩
   . exact hh.elim
 . exact hh.elim
theorem l9{P:Program}{h:Hp}{q:Nat}{t t2:TypeId}{s x:D}{k:D->Hp->Prop}(hh:(Uw P h q t t2 s x).all (λ x=>k x.1 x.2)):n7 P h q t t2 s x k:=by
 unfold Uw at hh;unfold n7;split at hh
 case h_2=>exact hh.elim
 rename_i h1 h2;simp only[h1,h2];split at hh
 case h_2=>exact hh.elim
 rename_i h3;simp only[h3];refine Aiw (Vu (λ ys hy=>?_) (YG (Rs.all_bind hh)));split at hy
 . obtain ⟨⟨a1,a2,a3,a4,a5,a6,a7,a8,a9⟩,hk⟩:=hy;exact ⟨a1,a2,a3,a4,a5,a6,a7,a8,a9,hk⟩
 . obtain ⟨⟨a1,a2,a3,a4,a5,a6,a7,a8,a9⟩,hk⟩:=hy;exact ⟨a1,a2,a3,a4,a5,a6,a7,a8,a9,hk⟩
 . have hy:=(N9 hy).2;split at hy
   . rename_i h4;obtain ⟨⟨a1,a2,a3,a4,a5,a6,a7,a8,a9,a10,a11⟩,hk⟩:=hy;simp only[h4];exact ⟨a1,a2,a3,a4,a5,a6,a7,a8,a9,a10,a11,hk⟩
   . exact hy.elim
 . split at hy
   . rename_i h4;obtain ⟨⟨a1,a2,a3,a4,a5,a6,a7⟩,hk⟩:=hy;simp only[h4];exact ⟨a1,a2,a3,a4,a5,a6,a7,hk⟩
   . exact hy.elim
 . exact hy.elim
def FE(h:Hp)(id i n:Nat)(v:D):Rs Hp:=
 match v with
 | .ref q off len N=>match get h q,get h id with
   | some (.arr e2 OV es),some (.Dj t e sz k2 rows hole)=> .ret (off=0/\e2=e/\OV=sz/\N=es.length/\len=N/\n=rows.length/\(hole=none∨hole=some i))
       (Cw (Cw h id (.Dj t e sz (Atv hole k2) (rows.set i es) none)) q (.Fi (IK (.arr sz (es.length+1)))))
   | _,_=> .fail
 | _=> .fail
theorem U0{h:Hp}{id i n:Nat}{v:D}{k:Hp->Prop}(hh:(FE h id i n v).all k):Md h id i n v k:=by
 unfold FE at hh;unfold Md;split at hh
 . split at hh
   . rename_i h1 h2;simp only[h1,h2];exact hh
   . exact hh.elim
 . exact hh.elim
def JY(P:Program)(h:Hp)(t:TypeId)(a v:D):Rs Hp:=
 match CC P t with
 | some ti=>match v.stored with
   | some cs=>match a with
     | .ptr id off=>match get h id with
       | some (.box bs ty)=> .ret (cs.length=ti.size/\off+cs.length<=bs.length) (Cw h id (.box (bs.take off++cs++bs.drop (off+cs.length)) (Ks ty (bs.take off++cs++bs.drop (off+cs.length)))))
       | _=> .fail
     | .ea id i c N=>(Ij h cs).bind λ y=>match get y.2 id with
       | some (.arr e sz es)=> .ret (cs.length=ti.size/\N=es.length/\c+y.1.length<=sz) (Cw y.2 id (.arr e sz (es.set i ((es.getD i []).take c++y.1++(es.getD i []).drop (c+y.1.length)))))
       | _=> .fail
     | .LL id i n=>(FE h id i n v).and (cs.length=ti.size)
     | _=> .fail
   | none=> .fail
 | none=> .fail
theorem G0:∀{ds:List D} {h:Hp} {q:Prop} {k:List Pd->Hp->Prop},HH h ds (λ x h=>q/\k x h)->q/\HH h ds k
 | [],h,q,k,hh=>hh
 | d::r,h,q,k,hh=>by
   have h1:Kl h d (λ x h'=>q/\HH h' r λ xs h''=>k (x::xs) h''):=VH (λ x h' h2=>G0 h2) hh;simp only[HH];unfold Kl at h1 ⊢;cases d with
   | p x=>exact h1
   | cl es=>exact h1
   | cz es=>exact h1
   | ref id off len N=>
     simp only at h1 ⊢;split at h1
     . rename_i h2;exact ⟨h1.2.1,h1.1,h1.2.2⟩
     . rename_i h2;exact ⟨h1.2.1,h1.1,h1.2.2⟩
     . exact h1.elim
   | Di id n=>
     simp only at h1 ⊢;split at h1
     . rename_i h2;exact ⟨h1.2.1,h1.1,h1.2.2⟩
     . exact h1.elim
   | _=>exact h1.elim
theorem u9{P:Program}{h:Hp}{t:TypeId}{a v:D}{k:Hp->Prop}(hh:(JY P h t a v).all k):SU P h t a v k:=by
 unfold JY at hh;unfold SU;split at hh
 case h_2=>exact hh.elim
 rename_i h1;simp only[h1];split at hh
 case h_2=>exact hh.elim
 rename_i h2;simp only[h2];split at hh
 . split at hh
   . rename_i h3;simp only[h3];exact ⟨hh.1.1,hh.1.2,hh.2⟩
   . exact hh.elim
 . refine G0 (K0 (λ x h' hx=>?_) (Oi (Rs.all_bind hh)));simp only at hx;split at hx
   . rename_i h3;simp only[h3];exact ⟨hx.1.1,hx.1.2.1,hx.1.2.2,hx.2⟩
   . exact hx.elim
 . exact ⟨(Rs.EA hh).1,U0 (Rs.EA hh).2⟩
 . exact hh.elim
def TK.Aqc:TK->Bool
 | .slice _=>true
 | _=>false
def D.Ake:D->Bool
 | .cl []=>true
 | _=>false
def Xd(ti:TI)(cs:List D):Bool:=ti.k.Aqc&&(!cs.isEmpty&&cs.all D.Ake)
def K6(P:Program)(st:St)(q:Nat)(op:Op):Rs (D×Hp):=
 match op with
 | .alloc t=>match CC P t with
   | some ti=>match ti.zero.stored with
     | some cs=> .ret (get st.hp q=none) (.ptr q 0,(q,.box cs (npT t cs))::st.hp)
     | none=> .fail
   | none=> .fail
 | .box _ x=>match (ev st x).stored with
   | some cs=> .ret (get st.hp q=none) (.ptr q 0,(q,.box cs)::st.hp)
   | none=> .fail
 | .store t a x=>(JY P st.hp t (ev st a) (ev st x)).bind λ h=> .ret True (.Dg [],h)
 | .makeMap _ none=> .ret (get st.hp q=none) (.mv q,(q,.mp [])::st.hp)
 | .mapUpdate t m i x=>(J3 P st.hp t (ev st m) (ev st i) (ev st x)).bind λ h=> .ret True (.Dg [],h)
 | .buildSlice t n parts=>match CC P t with
   | some ⟨_,_,.slice e,_⟩=>match CC P e with
     | some ti=>match GM (λ i=>some (i*ti.size,ti.size)) (List.replicate (n*ti.size) .bad) (parts.toList.map λ q=>(q.1,ev st q.2)) with
       | some cs=>if Xd ti cs=true then .fail else (Ij st.hp cs).bind λ y=> .ret (0<ti.size/\n*ti.size<=16777216/\get y.2 q=none) (.ref q 0 n n,(q,.arr e ti.size (chunk ti.size n y.1))::y.2)
       | none=> .fail
     | none=> .fail
   | _=> .fail
 | .makeSlice t l m=>match CC P t,ev st l,ev st m with
   | some ⟨_,_,.slice e,_⟩,.p (.int _ l),.p (.int _ m)=>match CC P e with
     | some ti=>if ti.k.Aqc=true then .fail else (Ij [] ti.zero.cells).bind λ y=> .ret (0<ti.size/\get st.hp q=none/\(0<=l/\l<=m/\m*ti.bytes<=140737488355328/\m<=140737488355328)/\ti.zero.cells.length=ti.size)
         (.ref q 0 l.toNat l.toNat,(q,.arr e ti.size (List.replicate l.toNat y.1))::st.hp)
     | none=> .fail
   | _,_,_=> .fail
 | _=> .fail
theorem Il{P:Program}{st:St}{q:Nat}{op:Op}{k:D->Hp->Prop}(hh:(K6 P st q op).all (λ x=>k x.1 x.2)):mOp P st q op k:=by
 unfold K6 at hh;unfold mOp;split at hh
 . split at hh
   . rename_i h1;simp only[h1];split at hh
     . rename_i h2;simp only[h2];exact hh
     . exact hh.elim
   . exact hh.elim
 . split at hh
   . rename_i h2;simp only[h2];exact hh
   . exact hh.elim
 . exact u9 (Rs.Ce (λ h hx=>hx.2) (Rs.all_bind hh))
 . exact hh
 . exact Aa9 (Rs.Ce (λ h hx=>hx.2) (Rs.all_bind hh))
 . split at hh
   . rename_i h1;simp only[h1];split at hh
     . rename_i h2;simp only[h2];split at hh
       . rename_i h3;simp only[h3];split at hh
         . exact hh.elim
         have h4:=K0 (k':=λ y h=>_/\_/\get h q=none/\k _ _) (λ y h hy=>⟨hy.1.1,hy.1.2.1,hy.1.2.2,hy.2⟩) (Oi (Rs.all_bind hh));have h5:=G0 h4;have h6:=G0 h5.2;exact ⟨h5.1,h6.1,h6.2⟩
       . exact hh.elim
     . exact hh.elim
   . exact hh.elim
 . split at hh
   . rename_i h1 h2 h3;simp only[h1,h2,h3];split at hh
     . rename_i h4;simp only[h4];split at hh
       . exact hh.elim
       have h5:=K0 (k':=λ y h=>_/\_/\_/\_/\k _ _) (λ y h hy=>⟨hy.1.1,hy.1.2.1,hy.1.2.2.1,hy.1.2.2.2,hy.2⟩) (Oi (Rs.all_bind hh));have h6:=G0 h5;have h7:=G0 h6.2;have h8:=G0 h7.2;have h9:=G0 h8.2;exact ⟨h6.1,h7.1,h8.1,h9.1,h9.2⟩
     . exact hh.elim
   . exact hh.elim
 . exact hh.elim
def Sw(h:Hp)(d:D):Rs (D×Hp):=
 match d with
 | .ref id off len N=>match get h id with
   | some (.arr _ _ es)=> .ret (N=es.length) (.p (.sl ((es.drop off).take len)),froze h id)
   | some (.LG _ es)=> .ret (N=es.length) (.p (.sl ((es.drop off).take len)),h)
   | _=> .fail
 | .Di id n=>match get h id with
   | some (.Dj _ _ sz kk rows none)=> .ret (n=rows.length) (.p (.sl (rows.map λ r=>[.sl r])),Cw h id (.Fi (IK (.Dj sz rows.length kk))))
   | _=> .fail
 | .cl es=> .ret True (.p (.sl es),h)
 | d=> .ret True (d,h)
theorem Ey{h:Hp}{d:D}{k:D->Hp->Prop}(hh:(Sw h d).all (λ x=>k x.1 x.2)):bor h d k:=by
 cases d with
 | ref id off len N=>
   simp only[Sw] at hh;simp only[bor];split at hh
   . exact hh
   . exact hh
   . exact hh.elim
 | Di id n=>
   simp only[Sw] at hh;simp only[bor];split at hh
   . exact hh
   . exact hh.elim
 | cl es=>exact hh.2
 | _=>exact hh.2
mutual
def CZ (h:Hp) (d:D):Rs (D×Hp):=
  match d with
  | .agg cs=>(FO h cs).bind λ x=> .ret True (.agg x.1,x.2)
  | .Dg cs=>(FO h cs).bind λ x=> .ret True (.Dg x.1,x.2)
  | d=>Sw h d
def FO:Hp->List D->Rs (List D×Hp)
  | h,[]=> .ret True ([],h)
  | h,d::r=>(CZ h d).bind λ x=>(FO x.2 r).bind λ y=> .ret True (x.1::y.1,y.2)
end
mutual
theorem Rw:∀{d:D} {h:Hp} {k:D->Hp->Prop},(CZ h d).all (λ x=>k x.1 x.2)->Fj h d k
  | .agg cs,h,k,hh=>by simp only[CZ] at hh;simp only[Fj];exact Lp (Rs.Ce (λ x hx=>hx.2) (Rs.all_bind hh))
  | .Dg cs,h,k,hh=>by simp only[CZ] at hh;simp only[Fj];exact Lp (Rs.Ce (λ x hx=>hx.2) (Rs.all_bind hh))
  | .p _,h,k,hh=>by simp only[CZ] at hh;simp only[Fj];exact Ey hh
  | .cl _,h,k,hh=>by simp only[CZ] at hh;simp only[Fj];exact Ey hh
  | .cz _,h,k,hh=>by simp only[CZ] at hh;simp only[Fj];exact Ey hh
  | .ref _ _ _ _,h,k,hh=>by simp only[CZ] at hh;simp only[Fj];exact Ey hh
  | .ptr _ _,h,k,hh=>by simp only[CZ] at hh;simp only[Fj];exact Ey hh
  | .pe _,h,k,hh=>by simp only[CZ] at hh;simp only[Fj];exact Ey hh
  | .ea _ _ _ _,h,k,hh=>by simp only[CZ] at hh;simp only[Fj];exact Ey hh
  | .fn _ _,h,k,hh=>by simp only[CZ] at hh;simp only[Fj];exact Ey hh
  | .np,h,k,hh=>by simp only[CZ] at hh;simp only[Fj];exact Ey hh
  | .mv _,h,k,hh=>by simp only[CZ] at hh;simp only[Fj];exact Ey hh
  | .Di _ _,h,k,hh=>by simp only[CZ] at hh;simp only[Fj];exact Ey hh
  | .LL _ _ _,h,k,hh=>by simp only[CZ] at hh;simp only[Fj];exact Ey hh
  | .nr _ _ _ _,h,k,hh=>by simp only[CZ] at hh;simp only[Fj];exact Ey hh
  | .Qs,h,k,hh=>by simp only[CZ] at hh;simp only[Fj];exact Ey hh
  | .bad,h,k,hh=>by simp only[CZ] at hh;simp only[Fj];exact Ey hh
theorem Lp:∀{ds:List D} {h:Hp} {k:List D->Hp->Prop},(FO h ds).all (λ x=>k x.1 x.2)->P9 h ds k
  | [],h,k,hh=>by simp only[FO] at hh;simp only[P9];exact hh.2
  | d::r,h,k,hh=>by
    simp only[FO] at hh;simp only[P9];exact Rw (Rs.Ce (λ x h1=>Lp (Rs.Ce (λ y h2=>h2.2) (Rs.all_bind h1))) (Rs.all_bind hh))
end
def Aad(P:Program)(h:Hp)(t:TypeId)(x:D):Rs D:=
 match CC P t with
 | some ti=>match ti.k,x with
   | .string,.p (.str l)=> .ret True (.p (.int .i64 l.length))
   | .slice _,.p (.sl es)=> .ret True (.p (.int .i64 es.length))
   | .slice _,.cl es=> .ret True (.p (.int .i64 es.length))
   | .slice _,.ref id _ len N=> .ret (Ab9 h id N) (.p (.int .i64 len))
   | .slice _,.Di _ n=> .ret True (.p (.int .i64 n))
   | .slice _,.nr _ _ len _=> .ret True (.p (.int .i64 len))
   | .array n _,_=> .ret True (.p (.int .i64 n))
   | _,_=> .fail
 | none=> .fail
theorem Y6{P:Program}{h:Hp}{t:TypeId}{x:D}{k:D->Prop}(hh:(Aad P h t x).all k):Ak7 P h t x k:=by
 unfold Aad at hh;unfold Ak7;split at hh
 case h_2=>exact hh.elim
 try simp only[*]
 split at hh
 . first | exact hh.2 | (simp only[*];exact hh.2)
 . first | exact hh.2 | (simp only[*];exact hh.2)
 . first | exact hh.2 | (simp only[*];exact hh.2)
 . first | exact hh | (simp only[*];exact hh)
 . first | exact hh.2 | (simp only[*];exact hh.2)
 . first | exact hh.2 | (simp only[*];exact hh.2)
 . first | exact hh.2 | (simp only[*];exact hh.2)
 . exact hh.elim
def MJ(P:Program)(h:Hp)(t:TypeId)(s x:D):Rs (D×Hp):=
 match CC P t with
 | some ⟨_,_,.slice e,_⟩=>match CC P e with
   | some ti=>(SW h x).bind λ ys=>match s with
     | .ref id off len N=>match get h id with
       | some (.arr e' sz es)=> .ret (LI ti.size ys/\0<ti.size/\N=es.length/\off+len<=N/\sz=ti.size)
           (.p (.int .i64 ((min len ys.length:Nat):Int)),Cw h id (.arr e' sz (es.take off++ys.take len++es.drop (off+min len ys.length))))
       | _=> .fail
     | _=> .fail
   | none=> .fail
 | _=> .fail
theorem Wy{P:Program}{h:Hp}{t:TypeId}{s x:D}{k:D->Hp->Prop}(hh:(MJ P h t s x).all (λ x=>k x.1 x.2)):b9 P h t s x k:=by
 unfold MJ at hh;unfold b9;split at hh
 case h_2=>exact hh.elim
 rename_i h1;rw[h1];simp only;split at hh
 case h_2=>exact hh.elim
 rename_i ti h2;rw[h2];simp only;refine Vu (λ ys hy=>?_) (YG (Rs.all_bind hh));split at hy
 case h_2=>exact hy.elim
 split at hy
 case h_2=>exact hy.elim
 obtain ⟨⟨g1,g2,g3,g4,g5⟩,g6⟩:=hy;rename_i h3;exact ⟨λ y hy=>g1 y hy,g2,by simp only[h3];exact ⟨g3,g4,g5,g6⟩⟩
def Fe(P:Program)(st:St)(q:Nat)(b:Builtin)(ts:Array TypeId)(args:List D):Rs (D×Hp):=
 match b,args with
 | .len,[x]=>match ts[0]? with
   | some t=>(Aad P st.hp t x).bind λ d=> .ret True (d,st.hp)
   | none=> .fail
 | .append,[s,x]=>match ts[0]?,ts[1]? with
   | some t,some t2=>Uw P st.hp q t t2 s x
   | _,_=> .fail
 | .copy,[s,x]=>match ts[0]?,ts[1]? with
   | some t,some _=>MJ P st.hp t s x
   | _,_=> .fail
 | .min,[.p (.int k1 x),.p (.int k2 y)]=> .ret (k1=k2) (.p (.int k1 (if y<x then y else x)),st.hp)
 | .max,[.p (.int k1 x),.p (.int k2 y)]=> .ret (k1=k2) (.p (.int k1 (if x<y then y else x)),st.hp)
 | _,_=> .fail
theorem Lm{P:Program}{st:St}{q:Nat}{b:Builtin}{ts:Array TypeId}{args:List D}{k:D->Hp->Prop}(hh:(Fe P st q b ts args).all (λ x=>k x.1 x.2)):
   MO P st q b ts args k:=by
 unfold Fe at hh;unfold MO;split at hh
 . split at hh
   . first | exact Y6 (Rs.Ce (λ x hx=>hx.2) (Rs.all_bind hh)) | (simp only[*];exact Y6 (Rs.Ce (λ x hx=>hx.2) (Rs.all_bind hh)))
   . exact hh.elim
 . split at hh
   . first | exact l9 hh | (simp only[*];exact l9 hh)
   . exact hh.elim
 . split at hh
   . first | exact Wy hh | (simp only[*];exact Wy hh)
   . exact hh.elim
 . exact hh
 . exact hh
 . exact hh.elim
end Go.Am
namespace Go.Am
open Go
mutual
def D.Ef (ρ:Nat->Option Nat):D->D
  | .p x=> .p x
  | .agg cs=> .agg (HD ρ cs)
  | .Dg cs=> .Dg (HD ρ cs)
  | .cl es=> .cl es
  | .cz es=> .cz es
  | .ref id off len N=>match ρ id with | some j=> .ref j off len N | none=> .bad
  | .ptr id off=>match ρ id with | some j=> .ptr j off | none=> .bad
  | .pe cs=> .pe cs
  | .ea id i c N=>match ρ id with | some j=> .ea j i c N | none=> .bad
  | .fn f cap=> .fn f (HD ρ cap)
  | .np=> .np
  | .mv id=>match ρ id with | some j=> .mv j | none=> .bad
  | .Di id n=>match ρ id with | some j=> .Di j n | none=> .bad
  | .LL id i n=>match ρ id with | some j=> .LL j i n | none=> .bad
  | .nr id i len k=>match ρ id with | some j=> .nr j i len k | none=> .bad
  | .Qs=> .Qs
  | .bad=> .bad
def HD (ρ:Nat->Option Nat):List D->List D
  | []=>[]
  | d::r=>D.Ef ρ d::HD ρ r
end
def AO.Ef(ρ:Nat->Option Nat):AO->AO
 | .box cs t=> .box (HD ρ cs) t
 | o=>o
mutual
def D.ids:D->List Nat
  | .ref id _ _ _ | .ptr id _ | .ea id _ _ _ | .mv id | .Di id _ | .LL id _ _ | .nr id _ _ _=>[id]
  | .agg cs | .Dg cs | .fn _ cs=>Da cs
  | _=>[]
def Da:List D->List Nat
  | []=>[]
  | d::r=>D.ids d++Da r
end
def Fw(T:List Nat):List Nat->List Nat
 | []=>T
 | i::r=>if i∈T then Fw T r else Fw (T++[i]) r
def AO.ids:AO->List Nat
 | .box cs _=>Da cs
 | _=>[]
def IG(h:Hp):List Nat->List Nat
 | []=>[]
 | i::r=>(match get h i with | some o=>o.ids | none=>[])++IG h r
def ghost(h:Hp)(id:Nat):List Nat:=match get h id with
 | some (.Df _ _)=>[id]
 | _=>[]
def Rg(h:Hp):List Nat:=ghost h base++(ghost h (base+1)++(ghost h (base+2)++ghost h (base+3)))
def DL(h:Hp)(ids:List Nat):List Nat:=
 let t0:=Fw [] ids
 let t1:=Fw t0 (IG h t0)
 Fw (Fw t1 (IG h t1)) (Rg h)
def idx:List Nat->Nat->Nat->Option Nat
 | [],_,_=>none
 | x::r,k,id=>if x=id then some k else idx r (k+1) id
def sub(h:Hp)(ρ:Nat->Option Nat):Nat->List Nat->Hp
 | _,[]=>[]
 | k,id::r=>match get h id with
   | some o=>(k,o.Ef ρ)::sub h ρ (k+1) r
   | none=>sub h ρ (k+1) r
def back(T:List Nat)(q j:Nat):Option Nat:=if base<=j then T[j - base]? else some (10000*(j+1)+q)
def merge(T:List Nat)(q:Nat)(h:Hp):Hp->Hp
 | []=>h
 | (j,o)::r=>match back T q j with
   | some id=>Cw (merge T q h r) id (o.Ef (back T q))
   | none=>merge T q h r
def fresh(q:Nat)(h:Hp):Hp->Prop
 | []=>True
 | (j,_)::r=>(base<=j∨get h (10000*(j+1)+q)=none)/\fresh q h r
def Enters(P:Program)(f:FuncId):Prop:=∀args w,(callFunc f args).run P w= .ok (.enter f args) w
def Aoh(P:Program)(f:FuncId)(vs:Array Value)(w:World)(Az7:Ending->World->Prop):Prop:=
 ((callFunc f vs).run P w= .ok (.enter f vs) w/\Calls P f vs w Az7)∨∃v w',(callFunc f vs).run P w= .ok (.value v) w'/\Az7 (.returned v) w'
theorem Aoh.mono{P:Program}{f:FuncId}{vs:Array Value}{w:World}{Q Q':Ending->World->Prop}(h:Aoh P f vs w Q)(hq:∀e w',Q e w'->Q' e w'):Aoh P f vs w Q':=by
 rcases h with ⟨h1,h2⟩ | ⟨v,w',h1,h2⟩
 . exact .inl ⟨h1,h2.mono hq⟩
 . exact .inr ⟨v,w',h1,hq _ _ h2⟩
def BZ(P:Program)(f:FuncId)(args:List D)(h:Hp)(R:Hp->D->Prop):Prop:=
 ∀(vs:Array Value) (w:World) (F:Nat->Prop) (M:Nat->Mb),HR F w M h->(∀b,F b->b<w.heap.size)->(∀id,sg h id≠none->base<=id)->IW F w M (sg h) args vs.toList->
   Aoh P f vs w λ e w'=>∃v h' r F' M',e= .returned v/\R h' r/\HR F' w' M' h'/\DR F' w' M' (sg h') r v/\Aom ⟨w,F,EF M h,M,sg h⟩ w' F' M' h'
@[congr] theorem ACalls_congr{P:Program}{f:FuncId}{args At0:List D}{h h':Hp}{R:Hp->D->Prop}(e1:args=At0)(e2:h=h'):BZ P f args h R=BZ P f At0 h' R:=by rw[e1,e2]
theorem BZ.mono{P:Program}{f:FuncId}{args:List D}{h:Hp}{R R':Hp->D->Prop}(hc:BZ P f args h R)(hR:∀h' r,R h' r->R' h' r):BZ P f args h R':=
 λ vs w F M h1 h2 He h3=>(hc vs w F M h1 h2 He h3).mono λ _ _ ⟨v,h',r,F',M',h4,h5,h6⟩=>⟨v,h',r,F',M',h4,hR _ _ h5,h6⟩
theorem UC{P:Program}{f:FuncId}{e:Array Value->Sem Value}{args:List D}{h:Hp}{R:Hp->D->Prop}(Dq:∀args w,(callFunc f args).run P w=((e args).run P w).andThen λ v w'=> .ok (.value v) w')
   (hv:∀(vs:Array Value) w F M,IW F w M (sg h) args vs.toList->∃v r,(e vs).run P w= .ok v w/\DR F w M (sg h) r v/\R h r):BZ P f args h R:=by
 intro vs w F M LP OX Sj hd;obtain ⟨v,r,h1,h2,h3⟩:=hv vs w F M hd;refine .inr ⟨v,w,?_,v,h,r,F,M,rfl,h3,LP,h2,⟨rfl,rfl,rfl,Ai _,λ _ _ _=>rfl,λ _ h=>h,λ _ h=> .inl h,OX,λ _ h=> .inl h,CN.refl _ _,Sj⟩⟩;rw[Dq,h1];rfl
def HL(P:Program)(h:Hp)(f:FuncId)(ds:List D)(q:Nat)(k:D->Hp->Prop):Prop:=
 let T:=DL h (Da ds)
 T.Nodup/\(T.all λ id=>(get h id).isSome)=true/\
 BZ P f (HD (idx T base) ds) (sub h (idx T base) base T) λ h' r=>fresh q h h'/\k (r.Ef (back T q)) (merge T q h h')
def Ka(P:Program)(st:St)(o:Oper):Rs (D×Hp):=
 match o.op with
 | .call c=>match c.callee with
   | .builtin b=>Fe P st (o.dst.getD 0) b c.argTypes (c.args.toList.map (ev st))
   | _=> .fail
 | .alloc _ | .box _ _ | .store _ _ _ | .buildSlice _ _ _ | .makeSlice _ _ _ | .makeMap _ _ | .mapUpdate _ _ _ _=>K6 P st (o.dst.getD 0) o.op
 | op=>(JW P st op).bind λ d=> .ret True (d,st.hp)
def Hb(st:St)(f:Operand)(args:List Operand):Rs (FuncId×List D×Hp):=
 match ev st f with
 | .fn g cap=>(FO st.hp (args.map (ev st)++cap)).bind λ x=> .ret True (g,x.1,x.2)
 | _=> .fail
def De(o:Op):Option (Operand×List Operand):=
 match o with
 | .call c=>match c.callee with
   | .value f=>some (f,c.args.toList)
   | _=>none
 | _=>none
def Good(c:Ctx)(K:St->Prop):Act->World->Prop:=λ a w=>∃st F M,K st/\Rel c st a w F M
def N4(P:Program)(o:Oper)(K:St->Prop)(st:St):Prop:=
 ∀c a w F M (Q:Exit->Act->World->Prop),Rel c st a w F M->o.wp P a w (Good c K) Q
def Ll(S:Prop)(P:Program)(h:Hp)(f:FuncId)(ds:List D)(q:Nat)(k:D->Hp->Prop):Prop:=
 let T:=DL h (Da ds)
 T.Nodup/\(T.all λ id=>(get h id).isSome)=true/\
 (BZ P f (HD (idx T base) ds) (sub h (idx T base) base T) (λ h' r=>fresh q h h'/\k (r.Ef (back T q)) (merge T q h h'))∨S)
theorem Rr{S:Prop}{P:Program}{h:Hp}{f:FuncId}{ds:List D}{q:Nat}{k:D->Hp->Prop}(hh:Ll S P h f ds q k):HL P h f ds q k∨S:=by
 obtain ⟨h1,h2,h3⟩:=hh;rcases h3 with h3 | h3
 . exact .inl ⟨h1,h2,h3⟩
 . exact .inr h3
theorem WC{S:Prop}{P:Program}{h:Hp}{f:FuncId}{ds:List D}{q:Nat}{k:D->Hp->Prop}(hh:HL P h f ds q k):Ll S P h f ds q k:=⟨hh.1,hh.2.1,.inl hh.2.2⟩
theorem Lk{X:Prop}{P:Program}{h:Hp}{f:FuncId}{ds:List D}{q:Nat}{k:D->Hp->Prop}:Ll (false=true/\X) P h f ds q k=HL P h f ds q k:=
 propext ⟨λ hh=>(Rr hh).elim id λ h=>(AI h.1).elim,WC⟩
def Qr(P:Program)(s:Bool)(o:Oper)(K:St->Prop)(st:St):Prop:=
 match De o.op with
 | some (f,args)=>(Hb st f args).JD (s=true/\N4 P o K st) λ x=>Ll (s=true/\N4 P o K st) P x.2.2 x.1 x.2.1 (o.dst.getD 0) λ d h'=>K (({st with hp:=h'}:St).put o.dst d)
 | none=>(Ka P st o).JD (s=true/\N4 P o K st) λ x=>K (({st with hp:=x.2}:St).put o.dst x.1)
def FN(st:St)(ops:List Oper)(g:Option (Nat×Bool))(yes no:Prop):Prop:=
 match g with
 | none=>yes
 | some (j,want)=>match ((ops[j]?).bind (·.dst)).bind (get st.env) with
   | some (.p (.bool b))=>WM (b==want) yes no
   | some (.Dg [])=>no
   | _=>False
def UR(P:Program)(s:Bool)(ops:List Oper):List Oper->(St->Prop)->St->Prop
 | [],K,st=>K st
 | o::rest,K,st=>FN st ops o.guard (Qr P s o (UR P s ops rest K) st) (UR P s ops rest K (st.put o.dst (.Dg [])))
def thn(K:St->Prop)(Q:Exit->St->Prop):Exit->St->Prop
 | .normal,st=>K st
 | e,st=>Q e st
def Dt(id:Nat)(Q:Exit->St->Prop):Exit->St->Prop
 | .exit Ou,st=>if Ou=id then Q .normal st else Q (.exit Ou) st
 | e,st=>Q e st
def Wk(st st1:St):Prop:=∀c a w F M,Rel c st a w F M->∃F' M',Rel c st1 a w F' M'
def Yr(body:(Exit->St->Prop)->St->Prop)(Q:Exit->St->Prop):Nat->St->Prop
 | 0,_=>False
 | n+1,st=>∃st1,Wk st st1/\body (thn (Yr body Q n) Q) st1
def QC(c:Ctx)(Q:Exit->St->Prop):Exit->Act->World->Prop:=λ e a w=>∃st F M,Q e st/\Rel c st a w F M
def Avs(P:Program)(x:Code)(Q:Exit->St->Prop)(st:St):Prop:=
 ∀c a w F M,Rel c st a w F M->(Code.scope x).wp P (QC c Q) a w
def Aze(P:Program)(id:Nat)(ops:Array Oper)(Q:Exit->St->Prop)(st:St):Prop:=
 ∀c a w F M,Rel c st a w F M->(Code.region id ops true).wp P (QC c Q) a w
def wA(P:Program):Code->(Exit->St->Prop)->St->Prop
 | .skip,Q,st=>Q .normal st
 | .label _,Q,st=>Q .normal st
 | .ret,Q,st=>Q .ret st
 | .exit id,Q,st=>Q (.exit id) st
 | .goto l,Q,st=>Q (.goto l) st
 | .seq x y,Q,st=>wA P x (thn (wA P y Q) Q) st
 | .cond c x y,Q,st=>match ev st c with
   | .p (.bool b)=>WM b (wA P x Q st) (wA P y Q st)
   | _=>False
 | .block id x,Q,st=>wA P x (Dt id Q) st
 | .loop x,Q,st=>∃n,Yr (wA P x) Q n st
 | .scope x,Q,st=>Avs P x Q st
 | .region id ops draw,Q,st=>(draw=false/\UR P true ops.toList ops.toList (Q .normal) st)∨(draw=true/\Aze P id ops Q st)
 | _,_,_=>False
end Go.Am
namespace Go.Am
open Go
section
variable {P:Program} {c:Ctx} {st:St} {a:Act} {w:World} {F:Nat->Prop} {M:Nat->Mb}
theorem Jg(ρ:Nat->Option Nat):∀(cs:List D) (i:Nat),(HD ρ cs)[i]?=(cs[i]?).map (D.Ef ρ)
 | [],i=>by simp[HD]
 | d::r,0=>by simp[HD]
 | d::r,i+1=>by simp[HD,Jg ρ r i]
theorem GZ(ρ:Nat->Option Nat):∀cs:List D,(HD ρ cs).length=cs.length
 | []=>rfl
 | d::r=>by simp[HD,GZ ρ r]
theorem DR.Ef{ρ:Nat->Option Nat}{M':Nat->Mb}{s s':Nat->Option Sg}{d:D}{v:Value}(h:DR F w M s d v)
   (hρ:∀id j,ρ id=some j->s id≠none->M' j=M id/\s' j=s id):DR F w M' s' (d.Ef ρ) v:=by
 induction h with
 | p h=>simp only[D.Ef];exact .p h
 | agg cs vs hl _ ih=>
   simp only[D.Ef];refine .agg _ vs (by rw[GZ];exact hl) λ i e he=>?_;rw[Jg] at he;cases hc:cs[i]? with
   | none=>rw[hc] at he;cases he
   | some q=>rw[hc] at he;cases he;exact ih i q hc
 | Dg cs vs hl _ ih=>
   simp only[D.Ef];refine .Dg _ vs (by rw[GZ];exact hl) λ i e he=>?_;rw[Jg] at he;cases hc:cs[i]? with
   | none=>rw[hc] at he;cases he
   | some q=>rw[hc] at he;cases he;exact ih i q hc
 | cl es a h hn=>simp only[D.Ef];exact .cl es a h hn
 | cz es a h=>simp only[D.Ef];exact .cz es a h
 | ref id off len N sz n v hs hN hv h2=>
   simp only[D.Ef];cases hj:ρ id with
   | none=>exact .bad _
   | some j=>
     obtain ⟨h3,h4⟩:=hρ id j hj (by rw[hs];simp);exact .ref j off len N sz n v (by rw[h4,hs]) hN hv (λ e=>by rw[h3];exact h2 e)
 | ptr id off hs=>
   simp only[D.Ef];cases hj:ρ id with
   | none=>exact .bad _
   | some j=>
     obtain ⟨h3,h4⟩:=hρ id j hj (by rw[hs];simp);have:=DR.ptr (F:=F) (w:=w) (M:=M') (s:=s') j off (by rw[h4,hs]);rwa[h3] at this
 | pe cs b off row t fr hF hh hi hp=>simp only[D.Ef];exact .pe cs b off row t fr hF hh hi hp
 | ea id i q N sz n v hs hN hv h2=>
   simp only[D.Ef];cases hj:ρ id with
   | none=>exact .bad _
   | some j=>
     obtain ⟨h3,h4⟩:=hρ id j hj (by rw[hs];simp);exact .ea j i q N sz n v (by rw[h4,hs]) hN hv (λ e=>by rw[h3];exact h2 e)
 | fn f cap vs hl _ ih=>
   simp only[D.Ef];refine .fn f _ vs (by rw[GZ];exact hl) λ i e he=>?_;rw[Jg] at he;cases hc:cap[i]? with
   | none=>rw[hc] at he;cases he
   | some q=>rw[hc] at he;cases he;exact ih i q hc
 | np=>simp only[D.Ef];exact .np
 | mv id h1=>
   simp only[D.Ef];cases hj:ρ id with
   | none=>exact .bad _
   | some j=>
     obtain ⟨h3,h4⟩:=hρ id j hj (by rw[h1];simp);rw[<-h3];exact .mv j (by rw[h4,h1])
 | Di id n sz m k v h1 hN hv h2=>
   simp only[D.Ef];cases hj:ρ id with
   | none=>exact .bad _
   | some j=>
     obtain ⟨h3,h4⟩:=hρ id j hj (by rw[h1];simp);exact .Di j n sz m k v (by rw[h4,h1]) hN hv (λ e=>by rw[h3];exact h2 e)
 | LL id i n sz m k b h1 hN hi h2=>
   simp only[D.Ef];cases hj:ρ id with
   | none=>exact .bad _
   | some j=>
     obtain ⟨h3,h4⟩:=hρ id j hj (by rw[h1];simp);exact .LL j i n sz m k b (by rw[h4,h1]) hN hi (λ e=>by rw[h3];exact h2 e)
 | nr id i len q sz m k v h1 hN hv h2=>
   simp only[D.Ef];cases hj:ρ id with
   | none=>exact .bad _
   | some j=>
     obtain ⟨h3,h4⟩:=hρ id j hj (by rw[h1];simp);exact .nr j i len q sz m k v (by rw[h4,h1]) hN hv (λ e=>by rw[h3];exact h2 e)
 | Qs v h=>simp only[D.Ef];exact .Qs v h
 | bad v=>simp only[D.Ef];exact .bad v
theorem IW.Ef{ρ:Nat->Option Nat}{M':Nat->Mb}{s s':Nat->Option Sg}{ds:List D}{vs:List Value}(h:IW F w M s ds vs)
   (hρ:∀id j,ρ id=some j->s id≠none->M' j=M id/\s' j=s id):IW F w M' s' (HD ρ ds) vs:=
 ⟨by rw[GZ];exact h.1,λ i d hd=>by
   rw[Jg] at hd;cases hc:ds[i]? with
   | none=>rw[hc] at hd;cases hd
   | some q=>rw[hc] at hd;cases hd;exact (h.2 i q hc).Ef hρ⟩
theorem AO.Aa1(ρ:Nat->Option Nat)(o:AO):(o.Ef ρ).sg=o.sg:=by cases o<;>rfl
theorem AO.GK(ρ:Nat->Option Nat)(o:AO)(m:Mb)(b:Nat):(o.Ef ρ).F8 m b↔o.F8 m b:=by cases o<;>exact Iff.rfl
theorem Atq(ρ:Nat->Option Nat)(d:D):(d.Ef ρ).TA=d.TA:=by
 cases d with
 | ref id off len N=>simp only[D.Ef];cases ρ id<;>rfl
 | ptr id off=>simp only[D.Ef];cases ρ id<;>rfl
 | ea id i c N=>simp only[D.Ef];cases ρ id<;>rfl
 | mv id=>simp only[D.Ef];cases ρ id<;>rfl
 | Di id n=>simp only[D.Ef];cases ρ id<;>rfl
 | LL id i n=>simp only[D.Ef];cases ρ id<;>rfl
 | nr id i n k=>simp only[D.Ef];cases ρ id<;>rfl
 | _=>rfl
theorem Ac0(ρ:Nat->Option Nat):∀cs:List D,(HD ρ cs).any D.TA=cs.any D.TA
 | []=>rfl
 | d::r=>by simp only[HD,List.any_cons,Atq,Ac0 ρ r]
theorem Atr{ρ:Nat->Option Nat}{d:D}(h:d.Ef ρ= .cl []):d= .cl []:=by
 cases d with
 | ref id off len N=>simp only[D.Ef] at h;cases hr:ρ id<;>rw[hr] at h<;>cases h
 | ptr id off=>simp only[D.Ef] at h;cases hr:ρ id<;>rw[hr] at h<;>cases h
 | ea id i c N=>simp only[D.Ef] at h;cases hr:ρ id<;>rw[hr] at h<;>cases h
 | mv id=>simp only[D.Ef] at h;cases hr:ρ id<;>rw[hr] at h<;>cases h
 | Di id n=>simp only[D.Ef] at h;cases hr:ρ id<;>rw[hr] at h<;>cases h
 | LL id i n=>simp only[D.Ef] at h;cases hr:ρ id<;>rw[hr] at h<;>cases h
 | nr id i n k=>simp only[D.Ef] at h;cases hr:ρ id<;>rw[hr] at h<;>cases h
 | cl es=>simpa only[D.Ef] using h
 | _=>simp[D.Ef] at h
theorem NO.Ef{ρ:Nat->Option Nat}{M':Nat->Mb}{s s':Nat->Option Sg}{m:Mb}{o:AO}(h:NO F w M s m o)
   (hρ:∀id j,ρ id=some j->s id≠none->M' j=M id/\s' j=s id):NO F w M' s' m (o.Ef ρ):=by
 cases o with
 | box cs ty=>
   obtain ⟨h1,row,t,h2,h3,h4⟩:=h;refine ⟨h1,row,t,h2,by rw[GZ];exact h3,λ j d hd=>?_,λ h5 h6 j hj=>?_⟩
   . rw[Jg] at hd;cases hc:cs[j]? with
     | none=>rw[hc] at hd;cases hd
     | some q=>rw[hc] at hd;cases hd;exact ⟨(h4.1 j q hc).1.Ef hρ,(h4.1 j q hc).2⟩
   . refine h4.2 h5 (by rwa[Ac0] at h6) j ?_;rw[Jg] at hj;cases hc:cs[j]? with
     | none=>rw[hc] at hj;cases hj
     | some q=>
       rw[hc] at hj;simp only[Bn,Al] at hj;rw[Atr hj]
 | arr t sz es=>exact h
 | LG sz es=>exact h
 | iter l pos=>exact h
 | Df g cs=>exact h
 | Fi s=>exact h
 | mp l=>exact h
 | Dj t e sz k rows hole=>exact h
theorem Jo:∀(T:List Nat) (k id j:Nat),idx T k id=some j->∃i,j=k+i/\T[i]?=some id
 | [],k,id,j,h=>by simp[idx] at h
 | x::r,k,id,j,h=>by
   simp only[idx] at h;split at h
   . rename_i e;cases h;exact ⟨0,by omega,by simp[e]⟩
   . obtain ⟨i,h1,h2⟩:=Jo r (k+1) id j h;exact ⟨i+1,by omega,by simpa using h2⟩
theorem Acr(h:Hp)(ρ:Nat->Option Nat):∀(T:List Nat) (k j:Nat),get (sub h ρ k T) j=if k<=j then ((T[j - k]?).bind (get h)).map (AO.Ef ρ) else none
 | [],k,j=>by simp[sub,get]
 | id::r,k,j=>by
   have ih:=Acr h ρ r (k+1) j;by_cases e:k=j
   . subst e;simp only[sub,Ai,AM,Nat.sub_self,AK,Aa];cases ho:get h id with
     | some o=>simp[Cp]
     | none=>rw[ih,if_neg (by omega)];simp
   . have:get (sub h ρ k (id::r)) j=get (sub h ρ (k+1) r) j:=by
       simp only[sub];cases ho:get h id with
       | some o=>rw[Cp,if_neg e]
       | none=>rfl
     rw[this,ih];by_cases h2:k+1<=j
     . rw[if_pos h2,if_pos (by omega),show j - k=(j - (k+1))+1 from by omega,List.getElem?_cons_succ]
     . rw[if_neg h2,if_neg (by omega)]
theorem VN{T:List Nat}(h:T.Nodup){i j x:Nat}(hi:T[i]?=some x)(hj:T[j]?=some x):i=j:=by
 have h1:=(An.1 hi);have h2:=(An.1 hj);exact (List.getElem_inj (h₀:=h1.1) (h₁:=h2.1) h).1 (h1.2.trans h2.2.symm)
theorem TX{q:Nat}{h:Hp}:∀{h':Hp},fresh q h h'->∀j o,get h' j=some o->base<=j∨get h (10000*(j+1)+q)=none
 | [],_,j,o,hg=>by simp[get] at hg
 | (k,x)::r,hf,j,o,hg=>by
   rw[Cp] at hg;split at hg
   . rename_i e;subst e;exact hf.1
   . exact TX hf.2 j o hg
theorem get_merge{T:List Nat}{q:Nat}{h:Hp}:∀{h':Hp} (id:Nat),
   (∃j o,get h' j=some o/\back T q j=some id/\get (merge T q h h') id=some (o.Ef (back T q)))∨
   ((∀j o,get h' j=some o->back T q j≠some id)/\get (merge T q h h') id=get h id)∨¬(∀i j,back T q i=some id->back T q j=some id->(∃o,get h' i=some o)->(∃o,get h' j=some o)->i=j)
 | [],id=> .inr (.inl ⟨λ j o hg=>by simp[get] at hg,rfl⟩)
 | (k,x)::r,id=>by
   by_cases Q6:∀i j,back T q i=some id->back T q j=some id->(∃o,get ((k,x)::r) i=some o)->(∃o,get ((k,x)::r) j=some o)->i=j
   case neg=>exact .inr (.inr Q6)
   by_cases hb:back T q k=some id
   . refine .inl ⟨k,x,by simp[Cp],hb,?_⟩;simp only[merge,hb,CM,AM]
   . have Zn:get (merge T q h ((k,x)::r)) id=get (merge T q h r) id:=by
       simp only[merge];cases hk:back T q k with
       | none=>rfl
       | some Ou=>rw[CM,if_neg (λ e=>hb (by rw[hk,e]))]
     have LW:∀i,(∃o,get r i=some o)->back T q i=some id->∃o,get ((k,x)::r) i=some o:=λ i ⟨o,ho⟩ hbi=>by
       rw[Cp];by_cases e:k=i
       . subst e;exact (hb hbi).elim
       . rw[if_neg e];exact ⟨o,ho⟩
     rcases get_merge (T:=T) (q:=q) (h:=h) (h':=r) id with ⟨j,o,h1,h2,h3⟩ | ⟨h1,h2⟩ | h1
     . refine .inl ⟨j,o,?_,h2,by rw[Zn];exact h3⟩;rw[Cp,if_neg (λ e=>by subst e;exact hb h2)];exact h1
     . refine .inr (.inl ⟨λ j o hg=>?_,by rw[Zn];exact h2⟩);rw[Cp] at hg;split at hg
       . rename_i e;subst e;exact hb
       . exact h1 j o hg
     . exact (h1 λ i j hi hj hoi hoj=>Q6 i j hi hj (LW i hoi hi) (LW j hoj hj)).elim
theorem R9(hr:Rel c st a w F M){f:FuncId}{ds:List D}{q:Nat}{k:D->Hp->Prop}{vs:Array Value}(hd:IW F w M (sg st.hp) ds vs.toList)(h:HL P st.hp f ds q k):
   Aoh P f vs w λ e w'=>∃v d h' F' M',e= .returned v/\k d h'/\Rel c {st with hp:=h'} a w' F' M'/\DR F' w' M' (sg h') d v:=by
 unfold HL at h;generalize DL st.hp (Da ds)=T at h;obtain ⟨hT,DK,Mv⟩:=h;have NY:∀id,id∈T->∃o,get st.hp id=some o:=λ id hid=>by
   have:=AB.1 DK id hid;exact Bx.1 this
 have Acl:∀j,get (sub st.hp (idx T base) base T) j=if base<=j then ((T[j - base]?).bind (get st.hp)).map (AO.Ef (idx T base)) else none:=Acr _ _ T base
 have Akm:∀i id,T[i]?=some id->sg (sub st.hp (idx T base) base T) (base+i)=sg st.hp id:=λ i id hi=>by
   unfold sg;rw[Acl,if_pos (Nat.le_add_right _ _),A6,hi];cases ho:get st.hp id with
   | none=>simp[ho]
   | some o=>simp[ho,AO.Aa1]
 have hρ:∀id j,idx T base id=some j->sg st.hp id≠none->(λ j=>M (T.getD (j - base) 0)) j=M id/\sg (sub st.hp (idx T base) base T) j=sg st.hp id:=λ id j hj _=>by
   obtain ⟨i,rfl,hi⟩:=Jo T base id j hj;refine ⟨?_,Akm i id hi⟩;simp only[A6,Ay,hi,AY]
 have Aas:∀b,EF (λ j=>M (T.getD (j - base) 0)) (sub st.hp (idx T base) base T) b->∃(i id:Nat) (o:AO),T[i]?=some id/\get st.hp id=some o/\o.F8 (M id) b:=by
   rintro b ⟨j,o,hj,CI⟩;rw[Acl] at hj;split at hj
   case isFalse=>cases hj
   cases hi:T[j - base]? with
   | none=>rw[hi] at hj;simp at hj
   | some id=>
     rw[hi] at hj;simp only[Aa] at hj;cases ho:get st.hp id with
     | none=>rw[ho] at hj;simp at hj
     | some o2=>
       rw[ho] at hj;simp only[Bn,Al] at hj;subst hj;have hM:M (T.getD (j - base) 0)=M id:=by simp only[Ay,hi,AY]
       simp only[hM,AO.GK] at CI ⊢;exact ⟨j - base,id,o2,hi,ho,CI⟩
 have LP:HR F w (λ j=>M (T.getD (j - base) 0)) (sub st.hp (idx T base) base T):=by
   have key:∀j o,get (sub st.hp (idx T base) base T) j=some o->∃id o2,T[j - base]?=some id/\base<=j/\get st.hp id=some o2/\o=o2.Ef (idx T base)/\M (T.getD (j - base) 0)=M id:=by
     intro j o hj;rw[Acl] at hj;split at hj
     case isFalse=>cases hj
     rename_i hle;cases hi:T[j - base]? with
     | none=>rw[hi] at hj;simp at hj
     | some id=>
       rw[hi] at hj;simp only[Aa] at hj;cases ho:get st.hp id with
       | none=>rw[ho] at hj;simp at hj
       | some o2=>
         rw[ho] at hj;simp only[Bn,Al] at hj;exact ⟨id,o2,rfl,hle,ho,hj.symm,by simp only[Ay,hi,AY]⟩
   constructor
   . intro j o hj;obtain ⟨id,o2,_,_,ho,rfl,hM⟩:=key j o hj;simp only[hM];exact (hr.heap.obj id o2 ho).Ef hρ
   . intro j o j' o' b hj Hc CI Eu;obtain ⟨id,o2,hi,hle,ho,rfl,hM⟩:=key j o hj;obtain ⟨Ou,o2',TS,Axz,Nf,rfl,hM'⟩:=key j' o' Hc;simp only[hM,hM',AO.GK] at CI Eu;have:=hr.heap.inj id o2 Ou o2' b ho Nf CI Eu;subst this;have:=VN hT hi TS;omega
 refine (Mv vs w F _ LP hr.keep.Fl (λ id hid=>by
   by_cases e:base<=id
   . exact e
   . exact (hid (by unfold sg;rw[Acl,if_neg e];rfl)).elim) (hd.Ef hρ)).mono ?_
 rintro e w' ⟨v,h',r,F',M',rfl,⟨Aaw,hk⟩,Vd,Av1,hK⟩;refine ⟨v,D.Ef (back T q) r,merge T q st.hp h',F',?_⟩;have G6:∀j id,back T q j=some id->(∃o,get h' j=some o)->(base<=j/\T[j - base]?=some id)∨(j<base/\get st.hp id=none):=by
   intro j id hb ⟨o,ho⟩;unfold back at hb;by_cases e1:base<=j
   . rw[if_pos e1] at hb;exact .inl ⟨e1,hb⟩
   . rw[if_neg e1] at hb;simp only[Al] at hb;refine .inr ⟨by omega,?_⟩;have:=(TX Aaw j o ho).resolve_left e1;rwa[hb] at this
 have Q6:∀id i j,back T q i=some id->back T q j=some id->(∃o,get h' i=some o)->(∃o,get h' j=some o)->i=j:=by
   intro id i j hi hj hoi hoj;have h1:=G6 i id hi hoi;have h2:=G6 j id hj hoj;rcases h1 with ⟨h1,h3⟩ | ⟨h1,h3⟩<;>rcases h2 with ⟨h2,h4⟩ | ⟨h2,h4⟩
   . have:=VN hT h3 h4;omega
   . obtain ⟨o,ho⟩:=NY id (AU h3);rw[h4] at ho;cases ho
   . obtain ⟨o,ho⟩:=NY id (AU h4);rw[h3] at ho;cases ho
   . unfold back at hi hj;rw[if_neg (by omega)] at hi hj;simp only[Al] at hi hj;omega
 classical
 let M2:Nat->Mb:=λ id=>if hx:∃j,(∃o,get h' j=some o)/\back T q j=some id then M' hx.choose else M id
 have hM2:∀j id,(∃o,get h' j=some o)->back T q j=some id->M2 id=M' j:=by
   intro j id ho hb;have hx:∃j,(∃o,get h' j=some o)/\back T q j=some id:=⟨j,ho,hb⟩;simp only[M2,dif_pos hx];rw[Q6 id _ _ hx.choose_spec.2 hb hx.choose_spec.1 ho]
 have Aay:∀id,(∀j o,get h' j=some o->back T q j≠some id)->M2 id=M id:=by
   intro id LV;simp only[M2];rw[dif_neg];rintro ⟨j,⟨o,ho⟩,hb⟩;exact LV j o ho hb
 have Cs:∀id,(∃j o,get h' j=some o/\back T q j=some id/\get (merge T q st.hp h') id=some (o.Ef (back T q)))∨
     ((∀j o,get h' j=some o->back T q j≠some id)/\get (merge T q st.hp h') id=get st.hp id):=by
   intro id;rcases get_merge (T:=T) (q:=q) (h:=st.hp) (h':=h') id with h1 | h1 | h1
   . exact .inl h1
   . exact .inr h1
   . exact (h1 (Q6 id)).elim
 have hσ:∀j id,back T q j=some id->sg h' j≠none->M2 id=M' j/\sg (merge T q st.hp h') id=sg h' j:=by
   intro j id hb hs;have ho:∃o,get h' j=some o:=by
     cases hg:get h' j with
     | none=>exact (hs (by simp[sg,hg])).elim
     | some o=>exact ⟨o,rfl⟩
   refine ⟨hM2 j id ho hb,?_⟩;rcases Cs id with ⟨j2,o2,h1,h2,h3⟩ | ⟨h1,_⟩
   . have:=Q6 id j j2 hb h2 ho ⟨o2,h1⟩;subst this;simp[sg,h1,h3,AO.Aa1]
   . obtain ⟨o,ho⟩:=ho;exact (h1 j o ho hb).elim
 have Axq:∀id,(∃o,get st.hp id=some o)->id∉T->(∀j o,get h' j=some o->back T q j≠some id):=by
   intro id ⟨o,ho⟩ hid j o2 hj hb;rcases G6 j id hb ⟨o2,hj⟩ with ⟨_,h1⟩ | ⟨_,h1⟩
   . exact hid (AU h1)
   . rw[h1] at ho;cases ho
 have Akn:∀id o,get st.hp id=some o->id∉T->get (merge T q st.hp h') id=some o/\M2 id=M id:=by
   intro id o ho hid;have LV:=Axq id ⟨o,ho⟩ hid;rcases Cs id with ⟨j,o2,h1,h2,h3⟩ | ⟨_,h2⟩
   . exact (LV j o2 h1 h2).elim
   . exact ⟨by rw[h2,ho],Aay id LV⟩
 have Auj:CN M M2 (sg st.hp) (sg (merge T q st.hp h')):=by
   have hK2:=hK.VB;simp only at hK2;refine ⟨λ id hid=>?_,λ id sz n hid=>?_,λ id sz n kk hid=>?_⟩
   . by_cases ET:id∈T
     . obtain ⟨i,hi⟩:=Bc.1 ET;obtain ⟨h1,h2⟩:=hK2.1 (base+i) (by rw[Akm i id hi];exact hid);have hb:back T q (base+i)=some id:=by unfold back;rw[if_pos (Nat.le_add_right _ _),A6];exact hi
       obtain ⟨h3,h4⟩:=hσ _ _ hb (by rw[h1];simp);refine ⟨by rw[h4,h1],?_⟩;rw[h3,h2];simp only[A6,Ay,hi,AY]
     . obtain ⟨o,ho,hso⟩:=Aj2 hid;obtain ⟨h1,h2⟩:=Akn id _ ho ET;exact ⟨by simp[sg,h1,hso],by rw[h2]⟩
   . by_cases ET:id∈T
     . obtain ⟨i,hi⟩:=Bc.1 ET;obtain ⟨n',h1,E0,h2⟩:=hK2.2.1 (base+i) sz n (by rw[Akm i id hi];exact hid);have hb:back T q (base+i)=some id:=by unfold back;rw[if_pos (Nat.le_add_right _ _),A6];exact hi
       obtain ⟨h3,h4⟩:=hσ _ _ hb (by rw[h1];simp);refine ⟨n',by rw[h4,h1],E0,λ e=>?_⟩;rw[h3,h2 e];simp only[A6,Ay,hi,AY]
     . have:∃o,get st.hp id=some o:=by
         cases hg:get st.hp id with
         | none=>simp[sg,hg] at hid
         | some o=>exact ⟨o,rfl⟩
       obtain ⟨o,ho⟩:=this;obtain ⟨h1,h2⟩:=Akn id o ho ET;refine ⟨n,?_,Ai _,λ _=>h2⟩;simp only[sg,h1,ho] at hid ⊢;exact hid
   . by_cases ET:id∈T
     . obtain ⟨i,hi⟩:=Bc.1 ET;obtain ⟨n',k',h1,E0,Av4,h2,He⟩:=hK2.2.2 (base+i) sz n kk (by rw[Akm i id hi];exact hid);have hb:back T q (base+i)=some id:=by unfold back;rw[if_pos (Nat.le_add_right _ _),A6];exact hi
       obtain ⟨h3,h4⟩:=hσ _ _ hb (by rw[h1];simp);refine ⟨n',k',by rw[h4,h1],E0,Av4,λ e=>?_,λ e=>?_⟩
       . rw[h3];have h5:=h2 e;simp only[A6,Ay,hi,AY] at h5;exact h5
       . rw[h3];have h5:=He e;simp only[A6,Ay,hi,AY] at h5;exact h5
     . have:∃o,get st.hp id=some o:=by
         cases hg:get st.hp id with
         | none=>simp[sg,hg] at hid
         | some o=>exact ⟨o,rfl⟩
       obtain ⟨o,ho⟩:=this;obtain ⟨h1,h2⟩:=Akn id o ho ET;refine ⟨n,kk,?_,Ai _,Ai _,λ _=>by rw[h2];exact ⟨rfl,rfl⟩,λ _=>by rw[h2]⟩;simp only[sg,h1,ho] at hid ⊢;exact hid
 have Q3:∀id o b,get st.hp id=some o->o.F8 (M id) b->id∉T->¬EF (λ j=>M (T.getD (j - base) 0)) (sub st.hp (idx T base) base T) b:=by
   intro id o b ho CI hid hO;obtain ⟨i,id2,o2,h1,h2,h3⟩:=Aas _ hO;have:=hr.heap.inj id2 o2 id o b h2 ho h3 CI;subst this;exact hid (AU h1)
 have hF:∀b,F b->w'.heap[b]?=w.heap[b]?:=λ b hb=>hK.LR b (hr.keep.Fl b hb) (λ hO=>by
   obtain ⟨i,id,o,h1,h2,h3⟩:=Aas _ hO;exact hr.heap.Jj ⟨id,o,h2,h3⟩ hb)
 have Bbp:∀id o b,get st.hp id=some o->o.F8 (M id) b->id∉T->¬F' b:=λ id o b ho CI hid hf=>by
   rcases hK.Fn _ hf with h1 | h1 | h1
   . exact hr.heap.Jj ⟨id,o,ho,CI⟩ h1
   . exact Q3 id o b ho CI hid h1
   . have:=hr.heap.lt ⟨id,o,ho,CI⟩;simp only at h1;omega
 refine ⟨M2,rfl,hk,?_,Av1.Ef hσ⟩;have Xy:∀id o,get (merge T q st.hp h') id=some o->(∀j o,get h' j=some o->back T q j≠some id)->get st.hp id=some o->id∉T:=by
   intro id o _ LV ho ET;obtain ⟨i,hi⟩:=Bc.1 ET;have hb:back T q (base+i)=some id:=by unfold back;rw[if_pos (Nat.le_add_right _ _),A6];exact hi
   have hs:sg (sub st.hp (idx T base) base T) (base+i)≠none:=by rw[Akm i id hi];simp[sg,ho]
   have:∃o,get h' (base+i)=some o:=by
     cases Mp:sg (sub st.hp (idx T base) base T) (base+i) with
     | none=>exact (hs Mp).elim
     | some s2=>
       cases s2 with
       | box=>
         have h1:=(hK.VB.1 _ Mp).1;obtain ⟨o,hcs,_⟩:=Aj2 h1;exact ⟨_,hcs⟩
       | arr sz n=>
         obtain ⟨n',h1,_⟩:=hK.VB.2.1 _ sz n Mp;rcases Atk h1 with ⟨t,es,h2,_⟩ | ⟨es,h2,_⟩ | ⟨_,h2,_⟩
         . exact ⟨_,h2⟩
         . exact ⟨_,h2⟩
         . exact ⟨_,h2⟩
       | Dj sz n kk=>
         obtain ⟨n',k',h1,_⟩:=hK.VB.2.2 _ sz n kk Mp;unfold sg at h1;cases hg2:get h' (base+i) with
         | none=>rw[hg2] at h1;simp at h1
         | some o3=>exact ⟨o3,rfl⟩
   obtain ⟨o2,UJ⟩:=this;exact LV _ o2 UJ hb
 constructor
 . intro t d ht;exact (hr.env t d ht).keep hF hK.F0 Auj
 . exact hr.size
 . exact hr.defers
 . constructor
   . intro id o ho;rcases Cs id with ⟨j,o2,h1,h2,h3⟩ | ⟨h1,h2⟩
     . rw[h3] at ho;cases ho;rw[hM2 j id ⟨o2,h1⟩ h2];exact (Vd.obj j o2 h1).Ef hσ
     . have Nf:get st.hp id=some o:=by rw[<-h2];exact ho
       have hid:=Xy id o ho h1 Nf;rw[Aay id h1];exact (hr.heap.obj id o Nf).keep hF hK.F0 Auj (λ b CI=>⟨hK.LR b (hr.heap.lt ⟨id,o,Nf,CI⟩) (Q3 id o b Nf CI hid),Bbp id o b Nf CI hid⟩)
   . intro id o Ou o' b ho Nf CI Eu;have Asz:∀j oj id2 o2,get h' j=some oj->oj.F8 (M' j) b->get st.hp id2=some o2->o2.F8 (M id2) b->id2∉T->False:=by
       intro j oj id2 o2 hj Axo h2 Ach Bbw;rcases hK.own _ ⟨j,oj,hj,Axo⟩ with h3 | h3
       . exact Q3 id2 o2 b h2 Ach Bbw h3
       . have:=hr.heap.lt ⟨id2,o2,h2,Ach⟩;simp only at h3;omega
     rcases Cs id with ⟨j,o2,h1,h2,h3⟩ | ⟨h1,h2⟩<;>rcases Cs Ou with ⟨j',o2',E0,He,h3'⟩ | ⟨E0,He⟩
     . rw[h3] at ho;rw[h3'] at Nf;cases ho;cases Nf;rw[hM2 j id ⟨o2,h1⟩ h2] at CI;rw[hM2 j' Ou ⟨o2',E0⟩ He] at Eu;have:=Vd.inj j o2 j' o2' b h1 E0 ((AO.GK _ _ _ _).1 CI) ((AO.GK _ _ _ _).1 Eu);subst this;rw[h2] at He;cases He;rfl
     . rw[h3] at ho;cases ho;have UJ:get st.hp Ou=some o':=by rw[<-He];exact Nf
       rw[hM2 j id ⟨o2,h1⟩ h2] at CI;rw[Aay Ou E0] at Eu;exact (Asz j o2 Ou o' h1 ((AO.GK _ _ _ _).1 CI) UJ Eu (Xy Ou o' Nf E0 UJ)).elim
     . rw[h3'] at Nf;cases Nf;have UJ:get st.hp id=some o:=by rw[<-h2];exact ho
       rw[hM2 j' Ou ⟨o2',E0⟩ He] at Eu;rw[Aay id h1] at CI;exact (Asz j' o2' id o E0 ((AO.GK _ _ _ _).1 Eu) UJ CI (Xy id o ho h1 UJ)).elim
     . have UJ:get st.hp id=some o:=by rw[<-h2];exact ho
       have Bbi:get st.hp Ou=some o':=by rw[<-He];exact Nf
       rw[Aay id h1] at CI;rw[Aay Ou E0] at Eu;exact hr.heap.inj id o Ou o' b UJ Bbi CI Eu
 . have Hu:=hr.keep;have Akw:∀b,EF (λ j=>M (T.getD (j - base) 0)) (sub st.hp (idx T base) base T) b->c.O0 b∨c.w0.heap.size<=b:=λ b hO=>by
     obtain ⟨i,id,o,h1,h2,h3⟩:=Aas _ hO;exact Hu.own _ ⟨id,o,h2,h3⟩
   refine ⟨hK.os.trans Hu.os,hK.tape.trans Hu.tape,hK.output.trans Hu.output,Bw Hu.size hK.size,λ b hb hO=>?_,λ b hb=>hK.F0 b (Hu.F0 b hb),λ b hb=>?_,hK.Fl,?_,Hu.VB.trans Auj,Hu.s0b⟩
   . rw[hK.LR b (Nat.lt_of_lt_of_le hb Hu.size) (λ hO2=>?_)]
     . exact Hu.LR b hb hO
     . rcases Akw b hO2 with h1 | h1
       . exact hO h1
       . omega
   . rcases hK.Fn b hb with h1 | h1 | h1
     . exact Hu.Fn b h1
     . exact .inr (Akw b h1)
     . exact .inr (.inr (Bw Hu.size h1))
   . rintro b ⟨id,o,ho,CI⟩;rcases Cs id with ⟨j,o2,h1,h2,h3⟩ | ⟨h1,h2⟩
     . rw[h3] at ho;cases ho;rw[hM2 j id ⟨o2,h1⟩ h2] at CI;rcases hK.own _ ⟨j,o2,h1,(AO.GK _ _ _ _).1 CI⟩ with h4 | h4
       . exact Akw _ h4
       . exact .inr (Bw Hu.size h4)
     . have UJ:get st.hp id=some o:=by rw[<-h2];exact ho
       rw[Aay id h1] at CI;exact Hu.own _ ⟨id,o,UJ,CI⟩
end
end Go.Am
namespace Go.Am
open Go
section
variable {P:Program} {c:Ctx} {st:St} {a:Act} {w:World} {F:Nat->Prop} {M:Nat->Mb}
theorem Rel.put(hr:Rel c st a w F M){d:D}{v:Value}(hd:DR F w M (sg st.hp) d v)(t:Option Tmp):Rel c (st.put t d) (a.put t v) w F M:=by
 cases t with
 | none=>exact hr
 | some t=>
   simp only[St.put,Act.put];by_cases ht:t<st.n
   . rw[if_pos ht];have Ct:t<a.tmps.size:=by rw[hr.size];exact ht
     refine ⟨λ q e hq=>?_,by simp[hr.size],hr.defers,hr.heap,hr.keep⟩;simp only[Cp] at hq;have Em:=hr.size;by_cases e1:t=q
     . subst e1;simp only[AM,Al] at hq;subst hq;have:(a.tmps.setIfInBounds t v).getD t undef=v:=by rw[As,Array.getElem?_setIfInBounds,if_pos rfl,if_pos Ct];rfl
       rw[this];exact hd
     . rw[if_neg e1] at hq;have:(a.tmps.setIfInBounds t v).getD q undef=a.tmps.getD q undef:=by rw[As,As,Array.getElem?_setIfInBounds,if_neg e1]
       rw[this];exact hr.env q e hq
   . rw[if_neg ht];have:a.tmps.setIfInBounds t v=a.tmps:=by
       have hge:¬t<a.tmps.size:=by rw[hr.size];exact ht
       unfold Array.setIfInBounds;rw[dif_neg hge]
     rw[this];exact hr
theorem DQ(hr:Rel c st a w F M){d:D}{v:Value}(hd:DR F w M (sg st.hp) d v){k:D->Hp->Prop}(h:bor st.hp d k):
   ∃d' h' F',k d' h'/\Rel c {st with hp:=h'} a w F' M/\(∀b,F b->F' b)/\sg h'=sg st.hp/\DR F' w M (sg h') d' v:=by
 have plain:k d st.hp->∃d' h' F',k d' h'/\Rel c {st with hp:=h'} a w F' M/\(∀b,F b->F' b)/\sg h'=sg st.hp/\DR F' w M (sg h') d' v:=
   λ hk=>⟨d,st.hp,F,hk,hr,λ _ h=>h,rfl,hd⟩
 unfold bor at h;cases d with
 | ref id off len N=>
   have h2:Kl st.hp (.ref id off len N) (λ x h'=>k (.p x) h'):=by
     unfold Kl;simp only at h ⊢;exact h
   obtain ⟨x,h',F',hk,h3,h4,h5,h6⟩:=K1 hr hd h2;exact ⟨_,h',F',hk,h3,h4,h5,.p h6⟩
 | Di id n=>
   have h2:Kl st.hp (.Di id n) (λ x h'=>k (.p x) h'):=by
     unfold Kl;simp only at h ⊢;exact h
   obtain ⟨x,h',F',hk,h3,h4,h5,h6⟩:=K1 hr hd h2;exact ⟨_,h',F',hk,h3,h4,h5,.p h6⟩
 | cl es=>cases hd with | cl _ ad hx _=>exact ⟨_,st.hp,F,h,hr,λ _ h=>h,rfl,.p hx⟩
 | _=>exact plain h
mutual
theorem OP:∀(d:D) {st:St} {F:Nat->Prop} {v:Value},Rel c st a w F M->DR F w M (sg st.hp) d v->∀{k:D->Hp->Prop},Fj st.hp d k->
    ∃d' h' F',k d' h'/\Rel c {st with hp:=h'} a w F' M/\(∀b,F b->F' b)/\sg h'=sg st.hp/\DR F' w M (sg h') d' v
  | .agg cs,st,F,v,hr,hd,k,h=>by
    cases hd with
    | agg _ vs hl hc=>
      simp only[Fj] at h;obtain ⟨ds,h',F',hk,h1,h2,h3,h4⟩:=JT cs vs.toList hr ⟨by simpa using hl,λ i e he=>by have:=hc i e he;simpa [List.getD,Array.getD_eq_getD_getElem?] using this⟩ h;exact ⟨_,h',F',hk,h1,h2,h3,.agg _ vs (by have:=h4.1;simpa using this) (λ i e he=>by have:=h4.2 i e he;simpa [List.getD,Array.getD_eq_getD_getElem?] using this)⟩
  | .Dg cs,st,F,v,hr,hd,k,h=>by
    cases hd with
    | Dg _ vs hl hc=>
      simp only[Fj] at h;obtain ⟨ds,h',F',hk,h1,h2,h3,h4⟩:=JT cs vs.toList hr ⟨by simpa using hl,λ i e he=>by have:=hc i e he;simpa [List.getD,Array.getD_eq_getD_getElem?] using this⟩ h;exact ⟨_,h',F',hk,h1,h2,h3,.Dg _ vs (by have:=h4.1;simpa using this) (λ i e he=>by have:=h4.2 i e he;simpa [List.getD,Array.getD_eq_getD_getElem?] using this)⟩
  | .p x,st,F,v,hr,hd,k,h=>DQ hr hd (by simpa only[Fj] using h)
  | .cl x,st,F,v,hr,hd,k,h=>DQ hr hd (by simpa only[Fj] using h)
  | .cz x,st,F,v,hr,hd,k,h=>DQ hr hd (by simpa only[Fj] using h)
  | .ref _ _ _ _,st,F,v,hr,hd,k,h=>DQ hr hd (by simpa only[Fj] using h)
  | .ptr _ _,st,F,v,hr,hd,k,h=>DQ hr hd (by simpa only[Fj] using h)
  | .pe _,st,F,v,hr,hd,k,h=>DQ hr hd (by simpa only[Fj] using h)
  | .ea _ _ _ _,st,F,v,hr,hd,k,h=>DQ hr hd (by simpa only[Fj] using h)
  | .fn _ _,st,F,v,hr,hd,k,h=>DQ hr hd (by simpa only[Fj] using h)
  | .np,st,F,v,hr,hd,k,h=>DQ hr hd (by simpa only[Fj] using h)
  | .mv _,st,F,v,hr,hd,k,h=>DQ hr hd (by simpa only[Fj] using h)
  | .Di _ _,st,F,v,hr,hd,k,h=>DQ hr hd (by simpa only[Fj] using h)
  | .LL _ _ _,st,F,v,hr,hd,k,h=>DQ hr hd (by simpa only[Fj] using h)
  | .nr _ _ _ _,st,F,v,hr,hd,k,h=>DQ hr hd (by simpa only[Fj] using h)
  | .Qs,st,F,v,hr,hd,k,h=>DQ hr hd (by simpa only[Fj] using h)
  | .bad,st,F,v,hr,hd,k,h=>DQ hr hd (by simpa only[Fj] using h)
theorem JT:∀(ds:List D) {st:St} {F:Nat->Prop} (vs:List Value),Rel c st a w F M->IW F w M (sg st.hp) ds vs->∀{k:List D->Hp->Prop},P9 st.hp ds k->
    ∃ds' h' F',k ds' h'/\Rel c {st with hp:=h'} a w F' M/\(∀b,F b->F' b)/\sg h'=sg st.hp/\IW F' w M (sg h') ds' vs
  | [],st,F,vs,hr,hd,k,h=>by
    simp only[P9] at h;exact ⟨[],st.hp,F,h,hr,λ _ h=>h,rfl,hd⟩
  | d::ds,st,F,vs,hr,hd,k,h=>by
    cases vs with
    | nil=>have:=hd.1;simp at this
    | cons v vs=>
      simp only[P9] at h;have hd0:DR F w M (sg st.hp) d v:=by simpa [List.getD] using hd.2 0 d rfl
      obtain ⟨x,h1,F1,hk,GG,hF1,LB,hx⟩:=OP d hr hd0 h;have V7:IW F1 w M (sg h1) ds vs:=by
        refine ⟨by have:=hd.1;simpa using this,λ i e he=>?_⟩;have:=hd.2 (i+1) e (by simpa using he);rw[LB];have h3:DR F w M (sg st.hp) e (vs.getD i undef):=by simpa [List.getD] using this
        exact h3.keep (λ _ _=>rfl) hF1 (CN.refl _ _)
      obtain ⟨xs,h2,F2,JF,Ht,hF2,Mp,HZ⟩:=JT ds (st:={st with hp:=h1}) vs GG V7 hk;refine ⟨x::xs,h2,F2,JF,Ht,λ b hb=>hF2 b (hF1 b hb),Mp.trans LB,by have:=HZ.1;simpa using this,λ i y hy=>?_⟩;cases i with
      | zero=>
        simp only[AK,Al] at hy;subst hy;have h4:=hx.keep (w':=w) (λ _ _=>rfl) hF2 (CN.refl M (sg h1));rw[Mp]
        simpa [List.getD] using h4
      | succ i=>simp only[List.getElem?_cons_succ] at hy;simpa [List.getD] using HZ.2 i y hy
end
theorem Ri(hr:Rel c st a w F M)(xs:List Operand):IW F w M (sg st.hp) (xs.map (ev st)) (xs.map a.eval):=by
 refine ⟨by simp,λ i d hd=>?_⟩;rw[AQ] at hd;cases hx:xs[i]? with
 | none=>rw[hx] at hd;cases hd
 | some x=>
   rw[hx] at hd;cases hd;rw[Ay,AQ,hx];exact Ci hr x
theorem Tw{hp:Hp}{t:TypeId}{x:D}{k:D->Prop}(h:Ak7 P hp t x k){vx:Value}(hx:DR F w M (sg hp) x vx)(ts:Array TypeId)(ty:TypeId)(ht:ts[0]?=some t):
   ∃d v,k d/\DR F w M (sg hp) d v/\(Builtin.len_ ts ty #[vx]).run P w= .ok v w:=by
 unfold Ak7 at h;split at h
 case h_2=>exact h.elim
 rename_i ti h1;obtain ⟨i1,u1,z1,NJ,Fq,_,rfl⟩:=Cd h1;split at h
 . rename_i l hk;obtain rfl:=TK.of_string hk;cases hx with | p hx=>cases hx;exact ⟨_,_,h,.p (.int _ _),by simp[Builtin.len_,ht,run_underlying Fq,goInt,Ig]⟩
 . rename_i e es hk;obtain rfl:=TK.of_slice hk;cases hx with | p hx=>
     have:∃ad cap,vx= .slice ad es.length cap:=by cases hx<;>exact ⟨_,_,rfl⟩
     obtain ⟨ad,cap,rfl⟩:=this;exact ⟨_,_,h,.p (.int _ _),by simp[Builtin.len_,ht,run_underlying Fq,goInt]⟩
 . rename_i e es hk;obtain rfl:=TK.of_slice hk;cases hx with | cl _ ad hx _=>exact ⟨_,_,h,.p (.int _ _),by simp[Builtin.len_,ht,run_underlying Fq,goInt]⟩
 . rename_i e id off len N hk;obtain rfl:=TK.of_slice hk;cases hx with
   | ref _ _ _ _ sz n _ hs hN hv h2=>
     rw[hs] at h;obtain ⟨ad,cap,rfl,_⟩:=h2 h.1;exact ⟨_,_,h.2,.p (.int _ _),by simp[Builtin.len_,ht,run_underlying Fq,goInt]⟩
 . rename_i e id n hk;obtain rfl:=TK.of_slice hk;cases hx with
   | Di _ _ sz m kk _ hs hN hv h2=>
     obtain ⟨ad,cap,rfl,_⟩:=hv;exact ⟨_,_,h,.p (.int _ _),by simp[Builtin.len_,ht,run_underlying Fq,goInt]⟩
 . rename_i e id i len q hk;obtain rfl:=TK.of_slice hk;cases hx with
   | nr _ _ _ _ sz m kk _ hs hN hv h2=>
     obtain ⟨ad,cap,rfl⟩:=hv;exact ⟨_,_,h,.p (.int _ _),by simp[Builtin.len_,ht,run_underlying Fq,goInt]⟩
 . rename_i n e _ hk;obtain rfl:=TK.of_array hk;exact ⟨_,_,h,.p (.int _ _),by simp[Builtin.len_,ht,run_underlying Fq,goInt]⟩
 . exact h.elim
theorem Y5{α:Type}{x:α}{f:Operand->α}{xs:Array Operand}(h:xs.toList.map f=[x]):∃q,xs=#[q]/\f q=x:=by
 obtain ⟨l⟩:=xs;simp only at h;cases l with
 | nil=>simp at h
 | cons q r=>
   cases r with
   | nil=>simp only[AD,Bk,List.cons.injEq,and_true] at h;exact ⟨q,rfl,h⟩
   | cons _ _=>simp at h
theorem Im{α:Type}{x y:α}{f:Operand->α}{xs:Array Operand}(h:xs.toList.map f=[x,y]):∃q r,xs=#[q,r]/\f q=x/\f r=y:=by
 obtain ⟨l⟩:=xs;simp only at h;cases l with
 | nil=>simp at h
 | cons q r=>
   cases r with
   | nil=>simp at h
   | cons q2 r2=>
     cases r2 with
     | nil=>simp only[AD,Bk,List.cons.injEq,and_true] at h;exact ⟨q,q2,rfl,h.1,h.2⟩
     | cons _ _=>simp at h
theorem MN(hr:Rel c st a w F M){o:Oper}{cl:Call}{b:Builtin}(ho:o.op= .call cl)(hb:cl.callee= .builtin b){q:Nat}{k:D->Hp->Prop}
   (h:MO P st q b cl.argTypes (cl.args.toList.map (ev st)) k):
   ∃d h' v w' M',k d h'/\Rel c {st with hp:=h'} a w' F M'/\DR F w' M' (sg h') d v/\(execOp a.eval o).run P w= .ok (.value v) w':=by
 unfold MO at h;generalize hl:cl.args.toList.map (ev st)=l at h;split at h
 ·
   rename_i x;obtain ⟨xq,HE,rfl⟩:=Y5 hl;split at h
   case h_2=>exact h.elim
   rename_i t ht;obtain ⟨d,v,h1,h2,h3⟩:=Tw (P:=P) h (Ci hr xq) cl.argTypes o.type ht;exact ⟨d,_,v,w,M,h1,hr,h2,by simp[execOp,ho,hb,resolve,invoke,builtin,HE,h3]⟩
 ·
   rename_i s x;obtain ⟨sq,xq,HE,rfl,rfl⟩:=Im hl;split at h
   case h_2=>exact h.elim
   rename_i t t2 ht ht2;obtain ⟨d,h',v,w',M',h1,h2,h3,h4⟩:=Abi (P:=P) (ty:=o.type) hr (Ci hr sq) (Ci hr xq) h;have e:Builtin.append_ cl.argTypes o.type #[a.eval sq,a.eval xq]=Builtin.append_ #[t,t2] o.type #[a.eval sq,a.eval xq]:=by
     simp[Builtin.append_,ht,ht2]
   exact ⟨d,h',v,w',M',h1,h2,h3,by simp[execOp,ho,hb,resolve,invoke,builtin,HE,e,h4]⟩
 ·
   rename_i s x;obtain ⟨sq,xq,HE,rfl,rfl⟩:=Im hl;split at h
   case h_2=>exact h.elim
   rename_i t t2 ht ht2;obtain ⟨d,h',v,w',M',h1,h2,h3,h4⟩:=Z9 (P:=P) (t2:=t2) (ty:=o.type) hr (Ci hr sq) (Ci hr xq) h;have e:Builtin.copy_ cl.argTypes o.type #[a.eval sq,a.eval xq]=Builtin.copy_ #[t,t2] o.type #[a.eval sq,a.eval xq]:=by
     simp[Builtin.copy_,ht]
   exact ⟨d,h',v,w',M',h1,h2,h3,by simp[execOp,ho,hb,resolve,invoke,builtin,HE,e,h4]⟩
 ·
   rename_i k1 x k2 y;obtain ⟨xq,yq,HE,hx,hy⟩:=Im hl;obtain ⟨rfl,hk⟩:=h;have h1:=Ci hr xq;have h2:=Ci hr yq;rw[hx] at h1;rw[hy] at h2;generalize Nd:a.eval xq=vx at h1;generalize hvy:a.eval yq=vy at h2;cases h1 with | p h1=>cases h1;cases h2 with | p h2=>
     cases h2;exact ⟨_,_,_,w,M,hk,hr,.p (.int _ _),by simp[execOp,ho,hb,resolve,invoke,builtin,HE,Nd,hvy,run_min_int2]⟩
 ·
   rename_i k1 x k2 y;obtain ⟨xq,yq,HE,hx,hy⟩:=Im hl;obtain ⟨rfl,hk⟩:=h;have h1:=Ci hr xq;have h2:=Ci hr yq;rw[hx] at h1;rw[hy] at h2;generalize Nd:a.eval xq=vx at h1;generalize hvy:a.eval yq=vy at h2;cases h1 with | p h1=>cases h1;cases h2 with | p h2=>
     cases h2;exact ⟨_,_,_,w,M,hk,hr,.p (.int _ _),by simp[execOp,ho,hb,resolve,invoke,builtin,HE,Nd,hvy,run_max_int2]⟩
 . exact h.elim
theorem Ae6(hr:Rel c st a w F M){o:Oper}{f:Operand}{args:List Operand}{g:FuncId}{cap:List D}{K:St->Prop}(ho:De o.op=some (f,args))(hg:ev st f= .fn g cap)
   (hk:HL P st.hp g (args.map (ev st)++cap) (o.dst.getD 0) λ d h'=>K (({st with hp:=h'}:St).put o.dst d)) (Q:Exit->Act->World->Prop):o.wp P a w (Good c K) Q:=by
 unfold De at ho;split at ho
 case h_2=>cases ho
 rename_i cl KS;split at ho
 case h_2=>cases ho
 rename_i f' hf;simp only[Al,Prod.mk.injEq] at ho;obtain ⟨rfl,rfl⟩:=ho;have hfv:=Ci hr f';rw[hg] at hfv;generalize hvf:a.eval f'=vf at hfv;cases hfv with
 | fn _ _ Up hl hc=>
   have IJ:=(Ri hr cl.args.toList).append (cs':=cap) (vs':=Up.toList) ⟨by simpa using hl,λ i e he=>by have:=hc i e he;simpa [List.getD,Array.getD_eq_getD_getElem?] using this⟩;rcases R9 (vs:=cl.args.map a.eval++Up) hr (by simpa using IJ) hk with ⟨Hw,Lg⟩ | ⟨v,w',Ip,v',d,h2,F2,M2,hv',JF,Ht,Jt⟩
   . have Dq:(execOp a.eval o).run P w= .ok (.enter g (cl.args.map a.eval++Up)) w:=by
       simp only[execOp,KS,hf,resolve,hvf,Deferred.ofValue,Sem.run_bind,Sem.run_pure,Result.andThen_ok,invoke,Array.empty_append];exact Hw
     unfold Oper.wp;rw[Dq];refine Lg.mono ?_;rintro e w' ⟨v,d,h2,F2,M2,rfl,JF,Ht,Jt⟩;exact ⟨_,F2,M2,JF,Ht.put Jt o.dst⟩
   . have Dq:(execOp a.eval o).run P w= .ok (.value v) w':=by
       simp only[execOp,KS,hf,resolve,hvf,Deferred.ofValue,Sem.run_bind,Sem.run_pure,Result.andThen_ok,invoke,Array.empty_append];exact Ip
     cases hv';unfold Oper.wp;rw[Dq];exact ⟨_,F2,M2,JF,Ht.put Jt o.dst⟩
theorem Qo(hr:Rel c st a w F M){s:Bool}{o:Oper}{K:St->Prop}(h:Qr P s o K st)(Q:Exit->Act->World->Prop):o.wp P a w (Good c K) Q:=by
 have val:∀{d v},K (st.put o.dst d)->DR F w M (sg st.hp) d v->(execOp a.eval o).run P w= .ok (.value v) w->o.wp P a w (Good c K) Q:=by
   intro d v hk hd Dq;unfold Oper.wp;rw[Dq];exact ⟨_,F,M,hk,hr.put hd o.dst⟩
 have mop:Az9 P c st a w F o (λ d h=>K (({st with hp:=h}:St).put o.dst d))->o.wp P a w (Good c K) Q:=by
   rintro ⟨d,h',v,w',F',M',hk,Kd,hF,hd,Dq⟩;unfold Oper.wp;rcases Dq with Dq | ⟨rfl,Dq⟩
   . rw[Dq];exact ⟨_,F',M',hk,Kd.put hd o.dst⟩
   . rw[Dq];exact ⟨_,F',M',hk,Kd.put hd o.dst⟩
 have other:(Ka P st o).all (λ x=>K (({st with hp:=x.2}:St).put o.dst x.1))->o.wp P a w (Good c K) Q:=by
   intro h;unfold Ka at h;split at h
   . rename_i cl ho;split at h
     . rename_i b hb;obtain ⟨d,h',v,w',M',hk,Kd,hd,Dq⟩:=MN hr ho hb (Lm (k:=λ d h=>K (({st with hp:=h}:St).put o.dst d)) h);unfold Oper.wp;rw[Dq];exact ⟨_,F,M',hk,Kd.put hd o.dst⟩
     . exact h.elim
   . exact mop (Gm hr (Il h))
   . exact mop (Gm hr (Il h))
   . exact mop (Gm hr (Il h))
   . exact mop (Gm hr (Il h))
   . exact mop (Gm hr (Il h))
   . exact mop (Gm hr (Il h))
   . exact mop (Gm hr (Il h))
   . have h1:=Yz (Rs.Ce (λ d hd=>hd.2) (Rs.all_bind h));obtain ⟨d,v,hk,hd,Dq⟩:=Vq hr h1;exact val hk hd Dq
 unfold Qr at h;split at h
 . rename_i f args ho;unfold De at ho;split at ho
   case h_2=>cases ho
   rename_i cl KS;split at ho
   case h_2=>cases ho
   rename_i f' hf;simp only[Al,Prod.mk.injEq] at ho;obtain ⟨rfl,rfl⟩:=ho;rcases Rs.F5 h with h | h
   case inr=>exact h.2 c a w F M Q hr
   have hfv:=Ci hr f';unfold Hb at h;split at h
   case h_2=>exact h.elim
   rename_i g cap he;rw[he] at hfv;generalize hvf:a.eval f'=vf at hfv;cases hfv with
   | fn _ _ Up hl hc=>
     have IJ:=(Ri hr cl.args.toList).append (cs':=cap) (vs':=Up.toList) ⟨by simpa using hl,λ i e he=>by have:=hc i e he;simpa [List.getD,Array.getD_eq_getD_getElem?] using this⟩;have hb:=Lp (k:=λ ds h=>Ll (s=true/\N4 P o K st) P h g ds (o.dst.getD 0) λ d h'=>K (({st with hp:=h'}:St).put o.dst d)) (Rs.Ce (λ x hx=>hx.2) (Rs.all_bind h));obtain ⟨ds,h',F',hk,Kd,hF,hs,hds⟩:=JT _ _ hr IJ hb;rcases Rr hk with hk | hk
     case inr=>exact hk.2 c a w F M Q hr
     rcases R9 (vs:=cl.args.map a.eval++Up) Kd (by simpa using hds) hk with ⟨Hw,Lg⟩ | ⟨v,w',Ip,v',d,h2,F2,M2,hv',JF,Ht,Jt⟩
     . have Dq:(execOp a.eval o).run P w= .ok (.enter g (cl.args.map a.eval++Up)) w:=by
         simp only[execOp,KS,hf,resolve,hvf,Deferred.ofValue,Sem.run_bind,Sem.run_pure,Result.andThen_ok,invoke,Array.empty_append];exact Hw
       unfold Oper.wp;rw[Dq];refine Lg.mono ?_;rintro e w' ⟨v,d,h2,F2,M2,rfl,JF,Ht,Jt⟩;exact ⟨_,F2,M2,JF,Ht.put Jt o.dst⟩
     . have Dq:(execOp a.eval o).run P w= .ok (.value v) w':=by
         simp only[execOp,KS,hf,resolve,hvf,Deferred.ofValue,Sem.run_bind,Sem.run_pure,Result.andThen_ok,invoke,Array.empty_append];exact Ip
       cases hv';unfold Oper.wp;rw[Dq];exact ⟨_,F2,M2,JF,Ht.put Jt o.dst⟩
 . rcases Rs.F5 h with h | h
   . exact other h
   . exact h.2 c a w F M Q hr
theorem R0(hr:Rel c st a w F M){ops:Array Oper}{o:Oper}{yes no:Prop}(h:FN st ops.toList o.guard yes no):
   (Region.wanted o (yielded ops a.tmps)=true/\yes)∨(Region.wanted o (yielded ops a.tmps)=false/\no):=by
 unfold FN at h;split at h
 . rename_i hg;exact .inl ⟨by simp[Region.wanted,hg],h⟩
 . rename_i j want hg;have hyl:∀{d:D},((ops.toList[j]?).bind (·.dst)).bind (get st.env)=some d->∃t,(ops[j]?).bind (·.dst)=some t/\DR F w M (sg st.hp) d (a.tmps.getD t undef):=by
     intro d hd;rw[BJ] at hd;cases ht:(ops[j]?).bind (·.dst) with
     | none=>rw[ht] at hd;cases hd
     | some t=>rw[ht] at hd;exact ⟨t,rfl,hr.env t d hd⟩
   split at h
   . rename_i b hb;obtain ⟨t,h1,h2⟩:=hyl hb;have hv:a.tmps[t]?=some (.bool b):=by
       generalize hq:a.tmps.getD t undef=v at h2;cases h2 with | p h2=>
         cases h2;rw[As] at hq;cases hx:a.tmps[t]? with
         | none=>rw[hx] at hq;simp[undef] at hq
         | some u=>rw[hx] at hq;simp at hq;rw[hq]
     have hw:Region.wanted o (yielded ops a.tmps)=(b==want):=by
       simp only[Region.wanted,hg,yielded,h1,Aa,hv];cases b<;>cases want<;>rfl
     rw[hw];by_cases e:(b==want)=true
     . exact .inl ⟨e,h.1 e⟩
     . exact .inr ⟨by simpa using e,h.2 (by simpa using e)⟩
   . rename_i hb;obtain ⟨t,h1,h2⟩:=hyl hb;refine .inr ⟨?_,h⟩;simp only[Region.wanted,hg,yielded,h1,Aa];generalize hq:a.tmps.getD t undef=v at h2;cases h2 with
     | Dg _ vs hl _=>
       rw[As] at hq;cases hx:a.tmps[t]? with
       | none=>rfl
       | some u=>rw[hx] at hq;simp at hq;rw[hq];rfl
   . exact h.elim
theorem Rel.drew(hr:Rel c st a w F M):Rel c st a {w with drawn:=w.drawn+1} F M:=by
 have hs:=CN.refl M (sg st.hp);refine ⟨λ t d ht=>(hr.env t d ht).keep (λ _ _=>rfl) (λ _ h=>h) hs,hr.size,hr.defers,hr.heap.keep (λ _ _=>rfl) (λ _ _=>rfl),?_⟩;have hk:=hr.keep;exact ⟨hk.os,hk.tape,hk.output,hk.size,hk.LR,hk.F0,hk.Fn,hk.Fl,hk.own,hk.VB,hk.s0b⟩
theorem N6{Q:Exit->Act->World->Prop}{s:Bool}{K:St->Prop}(ops:Array Oper)(hQ:∀a w,Good c K a w->Q .normal a w):∀(l:List Oper) {st:St} {a:Act} {w:World} {F:Nat->Prop} {M:Nat->Mb},
   Rel c st a w F M->UR P s ops.toList l K st->wpList P ops Q l a w
 | [],st,a,w,F,M,hr,h=>hQ _ _ ⟨st,F,M,h,hr⟩
 | o::rest,st,a,w,F,M,hr,h=>by
   simp only[UR] at h;refine wpList_step λ KK hKK=>?_;have yes:Qr P s o (UR P s ops.toList rest K) st->o.wp P a w KK Q:=λ hy=>
     Oper.wp_mono (λ a' w' ⟨st',F',M',h1,h2⟩=>hKK _ _ (N6 ops hQ rest h2 h1)) (Qo hr hy Q)
   have no:UR P s ops.toList rest K (st.put o.dst (.Dg []))->KK (a.put o.dst undef) w:=λ hn=>
     hKK _ _ (N6 ops hQ rest (hr.put (.Dg [] #[] rfl (λ i d hd=>by simp at hd)) o.dst) hn)
   rcases R0 hr h with ⟨hw,hy⟩ | ⟨hw,hn⟩
   . rw[if_pos hw];exact yes hy
   . rw[if_neg (by rw[hw];simp)];exact no hn
theorem Aio{K:St->Prop}{Q:Exit->St->Prop}{e:Exit}{a:Act}{w:World}{N:Act->World->Prop}(hN:∀st F M,K st->Rel c st a w F M->N a w)(h:QC c (thn K Q) e a w):Exit.then N (QC c Q) e a w:=by
 obtain ⟨st,F,M,h1,h2⟩:=h;cases e<;>first
   | exact hN st F M h1 h2
   | exact ⟨st,F,M,h1,h2⟩
theorem Avi{id:Nat}{Q:Exit->St->Prop}{e:Exit}{a:Act}{w:World}(h:QC c (Dt id Q) e a w):Exit.inBlock id (QC c Q) e a w:=by
 obtain ⟨st,F,M,h1,h2⟩:=h;cases e with
 | exit Ou=>
   simp only[Dt] at h1;simp only[Exit.inBlock];split at h1
   . rename_i e;rw[if_pos e];exact ⟨st,F,M,h1,h2⟩
   . rename_i e;rw[if_neg e];exact ⟨st,F,M,h1,h2⟩
 | _=>exact ⟨st,F,M,h1,h2⟩
theorem Hh:∀(x:Code) {Q:Exit->St->Prop} {st:St} {a:Act} {w:World} {F:Nat->Prop} {M:Nat->Mb},Rel c st a w F M->wA P x Q st->x.wp P (QC c Q) a w
 | .skip,Q,st,a,w,F,M,hr,h=>wp_skip ⟨st,F,M,h,hr⟩
 | .label _,Q,st,a,w,F,M,hr,h=>wp_label ⟨st,F,M,h,hr⟩
 | .ret,Q,st,a,w,F,M,hr,h=>wp_ret ⟨st,F,M,h,hr⟩
 | .exit id,Q,st,a,w,F,M,hr,h=>wp_exit ⟨st,F,M,h,hr⟩
 | .goto l,Q,st,a,w,F,M,hr,h=>wp_goto ⟨st,F,M,h,hr⟩
 | .seq x y,Q,st,a,w,F,M,hr,h=>by
   simp only[wA] at h;exact wp_seq (Code.wp_mono (λ e a' w' hq=>Aio (λ st F M h1 h2=>Hh y h2 h1) hq) (Hh x hr h))
 | .cond q x y,Q,st,a,w,F,M,hr,h=>by
   simp only[wA] at h;have hq:=Ci hr q;split at h
   . rename_i b hb;rw[hb] at hq;generalize hv:a.eval q=v at hq;cases hq with | p hq=>
       cases hq;exact wp_cond_split hv (λ e=>Hh x hr (h.1 e)) (λ e=>Hh y hr (h.2 e))
   . exact h.elim
 | .block id x,Q,st,a,w,F,M,hr,h=>by
   simp only[wA] at h;exact wp_block (Code.wp_mono (λ e a' w' hq=>Avi hq) (Hh x hr h))
 | .loop x,Q,st,a,w,F,M,hr,h=>by
   simp only[wA] at h;obtain ⟨n,h⟩:=h;refine wp_loop_rounds n ?_;have key:∀(n:Nat) (st:St) (a:Act) (w:World) (F:Nat->Prop) (M:Nat->Mb),Rel c st a w F M->Yr (wA P x) Q n st->Code.rounds P x (QC c Q) n a w:=by
     intro n
     induction n with
     | zero=>intro st a w F M _ h;exact h.elim
     | succ n ih=>
       intro st a w F M hr h;rw[rounds_succ];obtain ⟨st1,H0,h⟩:=h;obtain ⟨F1,M1,GG⟩:=H0 c a w F M hr;exact Code.wp_mono (λ e a' w' hq=>Aio (λ st F M h1 h2=>ih st _ _ F M h2 h1) hq) (Hh x GG h)
   exact key n st a w F M hr h
 | .scope x,Q,st,a,w,F,M,hr,h=>by
   simp only[wA] at h;exact h c a w F M hr
 | .region id ops draw,Q,st,a,w,F,M,hr,h=>by
   simp only[wA] at h;rcases h with ⟨rfl,h⟩ | ⟨rfl,h⟩
   . exact wp_region_list (N6 ops (λ a' w' hg=>hg) ops.toList hr h)
   . exact h c a w F M hr
 | .rangeFunc ..,Q,st,a,w,F,M,hr,h=>by simp only[wA] at h
 | .refuse _,Q,st,a,w,F,M,hr,h=>by simp only[wA] at h
end
end Go.Am
namespace Go.Am
open Go
def R7:Nat->List D->List (Nat×D)
 | _,[]=>[]
 | k,d::r=>(k,d)::R7 (k+1) r
def UW(P:Program)(st:St):List ResultVar->(List D->Prop)->Prop
 | [],k=>k []
 | .tmp t::r,k=>UW P st r λ ds=>k ((get st.env t).getD .bad::ds)
 | .cell t T::r,k=>VU P st.hp T ((get st.env t).getD .bad) λ d=>UW P st r λ ds=>k (d::ds)
def WU:List D->D
 | [d]=>d
 | ds=> .Dg ds
def Oe(T:List Nat)(id:Nat):Option Nat:=if base<=id then (if id∈T then some id else none) else idx (T.filter (· <base)) 0 id
def pick(h:Hp)(ρ:Nat->Option Nat):List Nat->Hp
 | []=>[]
 | id::r=>match get h id,ρ id with
   | some o,some j=>(j,o.Ef ρ)::pick h ρ r
   | _,_=>pick h ρ r
def Pc(h0:List Nat)(hp:Hp)(d:D)(R:Hp->D->Prop):Prop:=
 let T:=DL hp (h0++d.ids)
 T.Nodup/\(T.all λ id=>(get hp id).isSome)=true/\(h0.all λ id=>base<=id&&T.contains id)=true/\(T.filter (· <base)).length<=base/\
 R (pick hp (Oe T) T) (d.Ef (Oe T))
def Ub(h0:List Nat)(hp:Hp)(d:D)(R:Hp->D->Prop):Prop:=
 Pc h0 hp d R∨Fj hp d λ d' h'=>Pc h0 h' d' R
def Bcv(P:Program)(fn:Func)(h0:List Nat)(R:Hp->D->Prop):Exit->St->Prop
 | .normal,st | .ret,st=>UW P st fn.results.toList λ ds=>Ub h0 st.hp (WU ds) R
 | _,_=>False
section
variable {P:Program} {c:Ctx} {st:St} {a:Act} {w:World} {F:Nat->Prop} {M:Nat->Mb}
theorem Wc:∀(ds:List D) (k t:Nat) (d:D),get (R7 k ds) t=some d->k<=t/\ds[t - k]?=some d
 | [],k,t,d,h=>by simp[R7,get] at h
 | x::r,k,t,d,h=>by
   simp only[R7,Cp] at h;split at h
   . rename_i e;cases h;subst e;exact ⟨Ai _,by simp⟩
   . obtain ⟨h1,h2⟩:=Wc r (k+1) t d h;exact ⟨by omega,by rw[show t - k=(t - (k+1))+1 from by omega];simpa using h2⟩
theorem Rel.start{h:Hp}{args:List D}{vs:Array Value}{n:Nat}(LP:HR F w M h)(OX:∀b,F b->b<w.heap.size)(Sj:∀id,sg h id≠none->base<=id)(hd:IW F w M (sg h) args vs.toList)(hn:args.length<=n):
   Rel ⟨w,F,EF M h,M,sg h⟩ ⟨R7 0 args,h,n⟩ {tmps:=vs++Array.replicate (n - vs.size) undef,defers:=[]} w F M:=by
 have hl:vs.size=args.length:=by simpa using hd.1
 refine ⟨λ t d ht=>?_,by simp;omega,rfl,LP,⟨rfl,rfl,rfl,Ai _,λ _ _ _=>rfl,λ _ h=>h,λ _ h=> .inl h,OX,λ _ h=> .inl h,CN.refl _ _,Sj⟩⟩;obtain ⟨_,h2⟩:=Wc args 0 t d ht;have h3:=hd.2 t d (by simpa using h2);have Ct:=(An.1 h2).1;have e:(vs++Array.replicate (n - vs.size) undef).getD t undef=vs.toList.getD t undef:=by
   rw[As,Ay,Array.getElem?_append,if_pos (by omega),BJ]
 rw[e];exact h3
theorem Og(hr:Rel c st a w F M):∀(rs:List ResultVar) {k:List D->Prop},UW P st rs k->
   ∃ds vs,k ds/\IW F w M (sg st.hp) ds vs/\(rs.mapM λ | .tmp t=>pure (a.tmps.getD t undef) | .cell q t=>do loadVar t (<-asAddr (a.tmps.getD q undef)):Sem (List Value)).run P w= .ok vs w
 | [],k,h=>⟨[],[],h,⟨rfl,λ i d hd=>by simp at hd⟩,by simp⟩
 | .tmp t::r,k,h=>by
   simp only[UW] at h;obtain ⟨ds,vs,h1,h2,h3⟩:=Og hr r h;have hd:DR F w M (sg st.hp) ((get st.env t).getD .bad) (a.tmps.getD t undef):=Ci hr (.tmp t);refine ⟨_,a.tmps.getD t undef::vs,h1,⟨by simp[h2.1],λ i d XC=>?_⟩,?_⟩
   . cases i with
     | zero=>simp only[List.getElem?_cons_zero,Option.some.injEq] at XC;subst XC;simpa [List.getD] using hd
     | succ i=>simp only[List.getElem?_cons_succ] at XC;simpa [List.getD] using h2.2 i d XC
   . rw[List.mapM_cons,Sem.run_bind,Sem.run_pure,Result.andThen_ok,Sem.run_bind,h3];rfl
 | .cell t T::r,k,h=>by
   simp only[UW] at h;have hd:DR F w M (sg st.hp) ((get st.env t).getD .bad) (a.tmps.getD t undef):=Ci hr (.tmp t);obtain ⟨d,v,h4,h5,h6⟩:=RQ hr.heap h hd;obtain ⟨ds,vs,h1,h2,h3⟩:=Og hr r h4;refine ⟨_,v::vs,h1,⟨by simp[h2.1],λ i d XC=>?_⟩,?_⟩
   . cases i with
     | zero=>simp only[List.getElem?_cons_zero,Option.some.injEq] at XC;subst XC;simpa [List.getD] using h5
     | succ i=>simp only[List.getElem?_cons_succ] at XC;simpa [List.getD] using h2.2 i d XC
   . have h7:(do loadVar T (<-asAddr (a.tmps.getD t undef)):Sem Value).run P w= .ok v w:=by
       generalize a.tmps.getD t undef=x at h6;cases x<;>simp[Instr.loadAt,Instr.sureAddr] at h6;rename_i ad;cases ad<;>simp[Instr.sureAddr] at h6
       simpa [asAddr] using h6
     rw[List.mapM_cons,Sem.run_bind,h7,Result.andThen_ok,Sem.run_bind,h3];rfl
theorem s8{s:Nat->Option Sg}{ds:List D}{vs:List Value}(h:IW F w M s ds vs):DR F w M s (WU ds) (if hx:vs.toArray.size=1 then vs.toArray[0] else .tuple vs.toArray):=by
 have hl:=h.1;have Dg:ds.length≠1->WU ds= .Dg ds:=by
   intro Dl;cases ds with
   | nil=>rfl
   | cons d r=>cases r with
     | nil=>simp at Dl
     | cons _ _=>rfl
 by_cases e:ds.length=1
 . obtain ⟨d,rfl⟩:=List.length_eq_one_iff.1 e;obtain ⟨v,rfl⟩:=List.length_eq_one_iff.1 (hl.trans e);have:=h.2 0 d rfl
   simpa [WU,List.getD] using this
 . rw[Dg e,dif_neg (by simp;omega)];exact .Dg ds vs.toArray (by simpa using hl) (λ i d hd=>by have:=h.2 i d hd;simpa [List.getD,Array.getD_eq_getD_getElem?] using this)
theorem Ky{h:Hp}{ρ:Nat->Option Nat}:∀{T:List Nat} {j:Nat} {o:AO},get (pick h ρ T) j=some o->∃id o2,id∈T/\ρ id=some j/\get h id=some o2/\o=o2.Ef ρ
 | [],j,o,hg=>by simp[pick,get] at hg
 | id::r,j,o,hg=>by
   simp only[pick] at hg;split at hg
   . rename_i o2 k ho hk;rw[Cp] at hg;split at hg
     . rename_i e;subst e;cases hg;exact ⟨id,o2,by simp,hk,ho,rfl⟩
     . obtain ⟨i,o3,h1,h2⟩:=Ky hg;exact ⟨i,o3,by simp[h1],h2⟩
   . obtain ⟨i,o3,h1,h2⟩:=Ky hg;exact ⟨i,o3,by simp[h1],h2⟩
theorem R3{h:Hp}{ρ:Nat->Option Nat}(Q6:∀i i' j,ρ i=some j->ρ i'=some j->i=i'):∀{T:List Nat} {id j:Nat} {o:AO},id∈T->ρ id=some j->get h id=some o->
   get (pick h ρ T) j=some (o.Ef ρ)
 | [],id,j,o,hm,_,_=>by simp at hm
 | x::r,id,j,o,hm,hj,ho=>by
   simp only[pick];by_cases e:x=id
   . subst e;rw[ho,hj];simp[Cp]
   . have r4:id∈r:=by
       rcases AF.1 hm with h1 | h1
       . exact (e h1.symm).elim
       . exact h1
     have ih:=R3 Q6 r4 hj ho;split
     . rename_i o2 k UJ hk;rw[Cp,if_neg (λ e2=>e (Q6 x id j (by rw[hk,e2]) hj))];exact ih
     . exact ih
theorem Aja{T:List Nat}(hlen:(T.filter (· <base)).length<=base)(i i' j:Nat)(h:Oe T i=some j)(h':Oe T i'=some j):i=i':=by
 unfold Oe at h h';by_cases e1:base<=i<;>by_cases e2:base<=i'
 . rw[if_pos e1] at h;rw[if_pos e2] at h';split at h<;>split at h'<;>simp_all
 . rw[if_pos e1] at h;rw[if_neg e2] at h';obtain ⟨p,rfl,hp⟩:=Jo _ _ _ _ h';split at h
   . simp only[Al] at h;have:=(An.1 hp).1;omega
   . cases h
 . rw[if_neg e1] at h;rw[if_pos e2] at h';obtain ⟨p,rfl,hp⟩:=Jo _ _ _ _ h;split at h'
   . simp only[Al] at h';have:=(An.1 hp).1;omega
   . cases h'
 . rw[if_neg e1] at h;rw[if_neg e2] at h';obtain ⟨p,rfl,hp⟩:=Jo _ _ _ _ h;obtain ⟨p',e3,hp'⟩:=Jo _ _ _ _ h';have:p=p':=by omega
   subst this;rw[hp] at hp';exact (Ac hp')
theorem Of(hr:Rel c st a w F M){h0:Hp}(hs0:c.s0=sg h0)(hO:∀b,c.O0 b↔EF c.M0 h0 b){d:D}{v:Value}{R:Hp->D->Prop}(hd:DR F w M (sg st.hp) d v)(h:Pc (h0.map (·.1)) st.hp d R):
   ∃h' r M',R h' r/\HR F w M' h'/\DR F w M' (sg h') r v/\Aom c w F M' h':=by
 unfold Pc at h;generalize DL st.hp (h0.map (·.1)++d.ids)=T at h;obtain ⟨hT,DK,h0T,hlen,hR⟩:=h;have Q6:=Aja hlen
 let M':Nat->Mb:=λ j=>if base<=j then M j else M ((T.filter (· <base)).getD j 0)
 have hρ:∀id j,Oe T id=some j->id∈T/\M' j=M id:=by
   intro id j hj;unfold Oe at hj;by_cases e:base<=id
   . rw[if_pos e] at hj;split at hj
     . rename_i hm;simp only[Al] at hj;subst hj;exact ⟨hm,by simp only[M',if_pos e]⟩
     . cases hj
   . rw[if_neg e] at hj;obtain ⟨i,rfl,hi⟩:=Jo _ _ _ _ hj;have Ct:=(An.1 hi).1;refine ⟨(List.mem_filter.1 (AU hi)).1,?_⟩;simp only[M'];rw[if_neg (by omega),Ay,A2,hi,AY]
 have Hs:∀id j,Oe T id=some j->sg st.hp id≠none->M' j=M id/\sg (pick st.hp (Oe T) T) j=sg st.hp id:=by
   intro id j hj hs;obtain ⟨hm,hM⟩:=hρ id j hj;refine ⟨hM,?_⟩;cases ho:get st.hp id with
   | none=>exact (hs (by simp[sg,ho])).elim
   | some o=>
     have:=R3 Q6 hm hj ho;simp[sg,this,ho,AO.Aa1]
 have CI:∀b,EF M' (pick st.hp (Oe T) T) b->EF M st.hp b:=by
   rintro b ⟨j,o,hj,ho⟩;obtain ⟨id,o2,hm,h1,h2,rfl⟩:=Ky hj;rw[(hρ id j h1).2] at ho;exact ⟨id,o2,h2,(AO.GK _ _ _ _).1 ho⟩
 refine ⟨_,_,M',hR,?_,hd.Ef Hs,?_⟩
 . constructor
   . intro j o hj;obtain ⟨id,o2,hm,h1,h2,rfl⟩:=Ky hj;rw[(hρ id j h1).2];exact (hr.heap.obj id o2 h2).Ef Hs
   . intro j o j' o' b hj Hc ho Nf;obtain ⟨id,o2,hm,h1,h2,rfl⟩:=Ky hj;obtain ⟨Ou,o2',r4,E0,He,rfl⟩:=Ky Hc;rw[(hρ id j h1).2] at ho;rw[(hρ Ou j' E0).2] at Nf;have:=hr.heap.inj id o2 Ou o2' b h2 He ((AO.GK _ _ _ _).1 ho) ((AO.GK _ _ _ _).1 Nf);subst this;rw[h1] at E0;exact Ac E0
 . have hk:=hr.keep;have Av5:∀id,sg h0 id≠none->base<=id/\id∈T:=by
     intro id hs;have ET:id∈h0.map (·.1):=by
       clear hs0 hO h0T hR
       induction h0 with
       | nil=>simp[sg,get] at hs
       | cons q r ih=>
         obtain ⟨k,o⟩:=q;simp only[AD,AF];by_cases e:id=k
         . exact .inl e
         . right;apply ih
           simpa [sg,Cp,Ne.symm e] using hs
     have:=AB.1 h0T id ET;simp only[Ao,Aq] at this;exact ⟨this.1,by simpa using this.2⟩
   have Xz:∀id,sg h0 id≠none->Oe T id=some id:=λ id hs=>by
     obtain ⟨h1,h2⟩:=Av5 id hs;unfold Oe;rw[if_pos h1,if_pos h2]
   refine ⟨hk.os,hk.tape,hk.output,hk.size,hk.LR,hk.F0,hk.Fn,hk.Fl,λ b hb=>hk.own b (CI b hb),?_,hk.s0b⟩;have G5:=hk.VB;rw[hs0] at G5 ⊢;refine ⟨λ id hi=>?_,λ id sz n hi=>?_,λ id sz n kk hi=>?_⟩
   . obtain ⟨h1,h2⟩:=G5.1 id hi;have h3:=Hs id id (Xz id (by rw[hi];simp)) (by rw[h1];simp);exact ⟨by rw[h3.2,h1],by rw[h3.1,h2]⟩
   . obtain ⟨n',h1,E0,h2⟩:=G5.2.1 id sz n hi;have h3:=Hs id id (Xz id (by rw[hi];simp)) (by rw[h1];simp);exact ⟨n',by rw[h3.2,h1],E0,λ e=>by rw[h3.1,h2 e]⟩
   . obtain ⟨n',k',h1,E0,Av4,h2,He⟩:=G5.2.2 id sz n kk hi;have h3:=Hs id id (Xz id (by rw[hi];simp)) (by rw[h1];simp);exact ⟨n',k',by rw[h3.2,h1],E0,Av4,λ e=>by rw[h3.1];exact h2 e,λ e=>by rw[h3.1];exact He e⟩
theorem Aid{f:FuncId}{fn:Func}{code:Code}{args:List D}{h:Hp}{R:Hp->D->Prop}{Q:Exit->St->Prop}(hf:P.funcs[f]?=some fn)(hb:fn.body=some code)(Hw:Enters P f)
   (hn:args.length<=fn.ntmps) (hQ:∀e st,Q e st->Bcv P fn (h.map (·.1)) R e st) (hw:wA P code Q ⟨R7 0 args,h,fn.ntmps⟩):BZ P f args h R:=by
 refine λ vs w F M LP OX Sj hd=> .inl ⟨Hw vs w,calls_of_wp hf hb (Code.wp_mono ?_ (Hh code (Rel.start LP OX Sj hd hn) hw))⟩;rintro e a w' ⟨st,F',M',hq0,hr⟩;have hq:=hQ e st hq0;have key:UW P st fn.results.toList (λ ds=>Ub (h.map (·.1)) st.hp (WU ds) R)->a.defers=[]/\∃v,(results fn a.tmps).run P w'= .ok v w'/\
     ∃v2 h' r F' M',Ending.returned v=Ending.returned v2/\R h' r/\HR F' w' M' h'/\DR F' w' M' (sg h') r v2/\Aom ⟨w,F,EF M h,M,sg h⟩ w' F' M' h':=by
   intro Sk;obtain ⟨ds,vs2,h1,h2,h3⟩:=Og hr _ Sk;have hv:=s8 h2;refine ⟨hr.defers,(if hx:vs2.toArray.size=1 then vs2.toArray[0] else .tuple vs2.toArray),?_,?_⟩;rotate_left
   . rcases h1 with h1 | h1
     . obtain ⟨h',r,M2,h4,h5,h6,h7⟩:=Of hr rfl (λ _=>Iff.rfl) hv h1;exact ⟨_,h',r,F',M2,rfl,h4,h5,h6,h7⟩
     . obtain ⟨d',He,F2,h4,Ht,hF2,Mp,Jt⟩:=OP _ hr hv h1;obtain ⟨h',r,M2,h4,h5,h6,h7⟩:=Of Ht rfl (λ _=>Iff.rfl) Jt h4;exact ⟨_,h',r,F2,M2,rfl,h4,h5,h6,h7⟩
   . unfold results;rw[Sem.run_bind,Array.mapM_eq_mapM_toList,Sem.run_map];refine (AR (λ r=>(r.andThen λ a w'=>Result.ok a.toArray w').andThen λ (a:Array Value) w'=>Sem.run P (pure (if h:a.size=1 then a[0] else Value.tuple a)) w') h3).trans ?_;simp
 cases e<;>first
   | exact key hq
   | exact hq.elim
end
end Go.Am
namespace Go.Am
open Go
theorem nd.{u}{α:Sort u}{a b:α}(h:a=b):a=b:=h
def W7(P:Program)(st:St):List ResultVar->Rs (List D)
 | []=> .ret True []
 | .tmp t::r=>(W7 P st r).bind λ ds=> .ret True ((get st.env t).getD .bad::ds)
 | .cell t T::r=>(Mi P st.hp T ((get st.env t).getD .bad)).bind λ d=>(W7 P st r).bind λ ds=> .ret True (d::ds)
theorem Tc{P:Program}{st:St}:∀{rs:List ResultVar} {k:List D->Prop},(W7 P st rs).all k->UW P st rs k
 | [],k,h=>h.2
 | .tmp t::r,k,h=>by
   simp only[W7] at h;simp only[UW];exact Tc (Rs.Ce (λ ds hd=>hd.2) (Rs.all_bind h))
 | .cell t T::r,k,h=>by
   simp only[W7] at h;simp only[UW];exact VT (Rs.Ce (λ d hd=>Tc (Rs.Ce (λ ds hd=>hd.2) (Rs.all_bind hd))) (Rs.all_bind h))
inductive Kt where
 | user (Q:Exit->St->Prop)
 | fin (rs:List ResultVar) (h0:List Nat) (R:Hp->D->Prop)
 | seq (y:Code) (k:Kt)
 | Dt (id:Nat) (k:Kt)
 | lp (x:Code) (n:Nat) (k:Kt)
def Kt.Fi(P:Program):Kt->Exit->St->Prop
 | .user Q=>Q
 | .fin rs h0 R=>λ e st=>match e with
   | .normal | .ret=>(W7 P st rs).all λ ds=>Ub h0 st.hp (WU ds) R
   | _=>False
 | .seq y k=>thn (wA P y (k.Fi P)) (k.Fi P)
 | .Dt id k=>Go.Am.Dt id (k.Fi P)
 | .lp x n k=>thn (Yr (wA P x) (k.Fi P) n) (k.Fi P)
def X(P:Program)(c:Code)(k:Kt)(st:St):Prop:=wA P c (k.Fi P) st
def J(P:Program)(k:Kt)(e:Exit)(st:St):Prop:=k.Fi P e st
def O(P:Program)(s:Bool)(ops rest:List Oper)(k:Kt)(st:St):Prop:=UR P s ops rest (k.Fi P .normal) st
def L(P:Program)(x:Code)(k:Kt)(n:Nat)(st:St):Prop:=Yr (wA P x) (k.Fi P) n st
def Af(P:Program)(s:Bool)(ops rest:List Oper)(k:Kt)(o:Oper)(st:St)(r:Rs (D×Hp)):Prop:=
 r.JD (s=true/\N4 P o (O P s ops rest k) st) λ x=>O P s ops rest k (({st with hp:=x.2}:St).put o.dst x.1)
def Cl(P:Program)(s:Bool)(ops rest:List Oper)(k:Kt)(o:Oper)(st:St)(r:Rs (FuncId×List D×Hp)):Prop:=
 r.JD (s=true/\N4 P o (O P s ops rest k) st) λ x=>Ll (s=true/\N4 P o (O P s ops rest k) st) P x.2.2 x.1 x.2.1 (o.dst.getD 0) λ d h'=>O P s ops rest k (({st with hp:=h'}:St).put o.dst d)
def Do(P:Program)(s:Bool)(ops rest:List Oper)(k:Kt)(o:Oper)(st:St):Prop:=Qr P s o (UR P s ops rest (k.Fi P .normal)) st
def Cn(P:Program)(x y:Code)(k:Kt)(st:St)(d:D):Prop:=match d with
 | .p (.bool b)=>WM b (X P x k st) (X P y k st)
 | _=>False
inductive Gv where
 | yes | no | cond (b:Bool) | bad
def J7(st:St)(ops:List Oper)(g:Option (Nat×Bool)):Gv:=
 match g with
 | none=> .yes
 | some (j,want)=>match ((ops[j]?).bind (·.dst)).bind (get st.env) with
   | some (.p (.bool b))=> .cond (b==want)
   | some (.Dg [])=> .no
   | _=> .bad
def Gu(P:Program)(s:Bool)(ops rest:List Oper)(k:Kt)(o:Oper)(st:St):Gv->Prop
 | .yes=>Do P s ops rest k o st
 | .no=>O P s ops rest k (st.put o.dst (.Dg []))
 | .cond b=>WM b (Do P s ops rest k o st) (O P s ops rest k (st.put o.dst (.Dg [])))
 | .bad=>False
section
variable {P:Program} {s:Bool} {ops rest l:List Oper} {k:Kt} {st:St} {x y:Code} {id i n:Nat} {o:Oper} {dst:Option Nat} {b:Bool}
theorem Avm:X P .skip k st=J P k .normal st:=nd rfl
theorem Arx:X P (.label i) k st=J P k .normal st:=nd rfl
theorem Az6:X P .ret k st=J P k .ret st:=nd rfl
theorem Avo:X P (.exit i) k st=J P k (.exit i) st:=nd rfl
theorem Avn:X P (.goto i) k st=J P k (.goto i) st:=nd rfl
theorem Az5:X P (.seq x y) k st=X P x (.seq y k) st:=nd rfl
theorem Avp(c:Operand):X P (.cond c x y) k st=Cn P x y k st (ev st c):=nd rfl
theorem Ary:X P (.block id x) k st=X P x (.Dt id k) st:=nd rfl
theorem Aog:X P (.region id l.toArray false) k st=O P true l l k st:=by
 unfold X O;simp[wA]
theorem X5(n:Nat)(h:L P x k n st):X P (.loop x) k st:=⟨n,h⟩
theorem Avu:L P x k (n+1) st=∃st1,Wk st st1/\X P x (.lp x n k) st1:=nd rfl
theorem X6:J P (.seq y k) .normal st=X P y k st:=nd rfl
theorem Ai4:J P (.seq y k) .ret st=J P k .ret st:=nd rfl
theorem Abl:J P (.seq y k) (.exit i) st=J P k (.exit i) st:=nd rfl
theorem Abk:J P (.seq y k) (.goto i) st=J P k (.goto i) st:=nd rfl
theorem X8:J P (.Dt id k) .normal st=J P k .normal st:=nd rfl
theorem Ai8:J P (.Dt id k) .ret st=J P k .ret st:=nd rfl
theorem Abm:J P (.Dt id k) (.exit i) st=if i=id then J P k .normal st else J P k (.exit i) st:=nd rfl
theorem o4:J P (.lp x n k) .normal st=L P x k n st:=nd rfl
theorem Aoo:J P (.lp x n k) .ret st=J P k .ret st:=nd rfl
theorem Ai6:J P (.lp x n k) (.exit i) st=J P k (.exit i) st:=nd rfl
theorem Az8:O P s ops [] k st=J P k .normal st:=nd rfl
theorem Avt:O P s ops (o::rest) k st=Gu P s ops rest k o st (J7 st ops o.guard):=by
 unfold O Gu J7;simp only[UR,FN];cases o.guard with
 | none=>rfl
 | some g=>
   obtain ⟨j,want⟩:=g;simp only;cases ((ops[j]?).bind (·.dst)).bind (get st.env) with
   | none=>rfl
   | some d=>
     cases d with
     | p q=>cases q<;>rfl
     | Dg cs=>cases cs<;>rfl
     | _=>rfl
theorem Avw:Gu P s ops rest k o st .yes=Do P s ops rest k o st:=nd rfl
theorem Aza:Gu P s ops rest k o st .no=O P s ops rest k (st.put o.dst (.Dg [])):=nd rfl
theorem As0:Gu P s ops rest k o st (.cond true)=Do P s ops rest k o st:=by simp[Gu]
theorem Aor:Gu P s ops rest k o st (.cond false)=O P s ops rest k (st.put o.dst (.Dg [])):=by simp[Gu]
theorem Azf:Do P s ops rest k o st=match De o.op with
   | some (f,args)=>Cl P s ops rest k o st (Hb st f args)
   | none=>Af P s ops rest k o st (Ka P st o):=by
 unfold Do Qr Cl Af;cases De o.op<;>rfl
theorem Awa(p:Prop)(d:D)(h:Hp):Af P s ops rest k o st (.ret p (d,h))=(p/\O P s ops rest k (({st with hp:=h}:St).put o.dst d)):=nd rfl
theorem As9(r r2:Rs (D×Hp)):Af P s ops rest k o st (.split true r r2)=Af P s ops rest k o st r:=by simp[Af,Rs.JD]
theorem Aoy(r r2:Rs (D×Hp)):Af P s ops rest k o st (.split false r r2)=Af P s ops rest k o st r2:=by simp[Af,Rs.JD]
theorem As6:Cn P x y k st (.p (.bool true))=X P x k st:=by simp[Cn]
theorem Aov:Cn P x y k st (.p (.bool false))=X P y k st:=by simp[Cn]
theorem Cx(h1:b=true->X P x k st)(h2:b=false->X P y k st):Cn P x y k st (.p (.bool b)):=⟨h1,h2⟩
def Sm(P:Program)(s:Bool)(ops rest:List Oper)(k:Kt)(o:Oper)(st:St):Prop:=s=true/\N4 P o (O P s ops rest k) st
def Ck(P:Program)(s:Bool)(ops rest:List Oper)(k:Kt)(dst:Option Nat)(st:St)(f:FuncId)(ds:List D)(h:Hp)(T:List Nat)(S:Prop):Prop:=
 (BZ P f (HD (idx T base) ds) (sub h (idx T base) base T) λ h' r=>fresh (dst.getD 0) h h'/\O P s ops rest k (({st with hp:=merge T (dst.getD 0) h h'}:St).put dst (r.Ef (back T (dst.getD 0)))))∨S
theorem Aw8(p:Prop)(f:FuncId)(ds:List D)(h:Hp):Cl P s ops rest k o st (.ret p (f,ds,h))=
   (p/\(DL h (Da ds)).Nodup/\((DL h (Da ds)).all λ id=>(get h id).isSome)=true/\Ck P s ops rest k o.dst st f ds h (DL h (Da ds)) (Sm P s ops rest k o st)):=nd rfl
def En(P:Program)(h0:List Nat)(R:Hp->D->Prop)(hp:Hp)(r:Rs (List D)):Prop:=r.all λ ds=>Ub h0 hp (WU ds) R
theorem Ai7(rs:List ResultVar)(h0:List Nat)(R:Hp->D->Prop):J P (.fin rs h0 R) .ret st=En P h0 R st.hp (W7 P st rs):=nd rfl
theorem X7(rs:List ResultVar)(h0:List Nat)(R:Hp->D->Prop):J P (.fin rs h0 R) .normal st=En P h0 R st.hp (W7 P st rs):=nd rfl
theorem Aw7(h0:List Nat)(R:Hp->D->Prop)(hp:Hp)(p:Prop)(ds:List D):En P h0 R hp (.ret p ds)=(p/\Ub h0 hp (WU ds) R):=nd rfl
theorem An9{h0:List Nat}{hp:Hp}{d:D}{R:Hp->D->Prop}(h:Pc h0 hp d R):Ub h0 hp d R:= .inl h
theorem Agz{h0:List Nat}{hp:Hp}{d:D}{R:Hp->D->Prop}(h:(CZ hp d).all λ x=>Pc h0 x.2 x.1 R):Ub h0 hp d R:= .inr (Rw (k:=λ d h=>Pc h0 h d R) h)
theorem B1{f:FuncId}{fn:Func}{code:Code}{args:List D}{h:Hp}{R:Hp->D->Prop}(hf:P.funcs[f]?=some fn)(hb:fn.body=some code)(Hw:Enters P f)
   (hn:args.length<=fn.ntmps) (hw:X P code (.fin fn.results.toList (h.map (·.1)) R) ⟨R7 0 args,h,fn.ntmps⟩):BZ P f args h R:=by
 refine Aid hf hb Hw hn (λ e st h1=>?_) hw;cases e<;>first
   | exact Tc h1
   | exact h1.elim
theorem B3{x:Int}(h0:-9223372036854775808<=x)(h1:x<=9223372036854775807):IntKind.i64.wrap x=x:=by rw[IntKind.wrap_i64];omega
attribute [go_sem] Avm Arx Az6 Avo Avn Az5 Avp Ary Aog X6 Ai4 Abl Abk X8 Ai8 Abm o4 Aoo Ai6 Az8 Avt Avw Aza As0 Aor Azf Awa As9 Aoy As6 Aov Aw8 Ai7 X7 Aw7 J7 De Hb Ka JW K6 Fe Aad Sw CZ FO Uw WY MJ JY SW UY Ij PU Ur HO Eh Xr GV XJ GW Acy Ac4 unR Arm Acz Mi QL VJ W7 Rs.bind Rs.and get ev St.put Cw WU IS Nz D.one D.cells D.stored TK.isAgg chunk froze R7 GM K2 Da D.ids ghost Rg DL Fw IG AO.ids idx sub Ab9
attribute [go_sem] FE Atv TK.Aqc D.Ake Xd List.isEmpty_cons List.isEmpty_nil Bool.and_false Bool.false_and Option.some.injEq reduceCtorEq if_true if_false
attribute [go_sem] T9 MK Ks npT D.TA List.any_cons List.any_nil Bool.or_self Bool.false_or Bool.or_false Bool.true_or Bool.or_true Bool.false_eq_true
attribute [go_sem] List.getElem?_toArray List.size_toArray true_and and_true Option.getD_some Option.getD_none Nat.zero_add List.map_cons List.map_nil Option.bind_some Option.bind_none List.getElem?_cons_zero List.getElem?_cons_succ List.getElem?_nil List.length_cons List.length_nil List.cons_append List.nil_append List.append_nil List.all_cons List.all_nil Bool.and_self Option.isSome_some List.nodup_nil List.drop_zero List.take_zero List.drop_succ_cons List.take_succ_cons List.drop_nil List.take_nil beq_self_eq_true beq_true beq_false Bool.not_true Bool.not_false Option.map_some Option.map_none Bool.true_and Bool.and_true List.replicate_succ List.replicate_zero ne_eq not_false_eq_true not_true_eq_false and_self
end
end Go.Am
namespace Go.Am
open Go
def NW(o:Op):Bool:=
 match o with
 | .call c=>match c.callee with
   | .builtin .len | .builtin .min | .builtin .max=>true
   | _=>false
 | .alloc _ | .box _ _ | .store _ _ _ | .buildSlice _ _ _ | .makeSlice _ _ _ | .makeMap _ _ | .mapUpdate _ _ _ _=>false
 | _=>true
section
variable {P:Program} {c:Ctx} {st:St} {a:Act} {w:World} {F:Nat->Prop} {M:Nat->Mb}
theorem Aep(hr:Rel c st a w F M){o:Oper}(hv:NW o.op=true){K:St->Prop}(h:Qr P false o K st):
   ∃d v,K (st.put o.dst d)/\DR F w M (sg st.hp) d v/\(execOp a.eval o).run P w= .ok (.value v) w:=by
 have hn:De o.op=none:=by
   cases ho:o.op<;>simp only[ho,NW] at hv<;>simp only[De];rename_i cl;cases hc:cl.callee<;>simp only[hc] at hv
   . exact (AI hv).elim
   . rfl
   . rfl
 unfold Qr at h;rw[hn] at h;simp only at h;rcases Rs.F5 h with h | h
 case inr=>exact (AI h.1).elim
 unfold Ka at h;split at h
 . rename_i cl ho;rw[ho] at hv;split at h
   . rename_i b hb;have hbb:=Lm (k:=λ d h=>K (({st with hp:=h}:St).put o.dst d)) h;simp only[NW,hb] at hv;unfold MO at hbb;generalize hl:cl.args.toList.map (ev st)=l at hbb;split at hbb
     . obtain ⟨xq,HE,rfl⟩:=Y5 hl;split at hbb
       case h_2=>exact hbb.elim
       rename_i t ht;obtain ⟨d,v,h1,h2,h3⟩:=Tw (P:=P) hbb (Ci hr xq) cl.argTypes o.type ht;exact ⟨d,v,h1,h2,by simp[execOp,ho,hb,resolve,invoke,builtin,HE,h3]⟩
     . simp at hv
     . simp at hv
     . obtain ⟨d,h',v,w',M',hk,Kd,hd,Dq⟩:=MN hr ho hb (Lm (k:=λ d h=>K (({st with hp:=h}:St).put o.dst d)) h);rename_i k1 x k2 y;obtain ⟨xq,yq,HE,hx,hy⟩:=Im hl;obtain ⟨rfl,hk⟩:=hbb;have h1:=Ci hr xq;have h2:=Ci hr yq;rw[hx] at h1;rw[hy] at h2;generalize Nd:a.eval xq=vx at h1;generalize hvy:a.eval yq=vy at h2;cases h1 with | p h1=>cases h1;cases h2 with | p h2=>
         cases h2;exact ⟨_,_,hk,.p (.int _ _),by simp[execOp,ho,hb,resolve,invoke,builtin,HE,Nd,hvy,run_min_int2]⟩
     . rename_i k1 x k2 y;obtain ⟨xq,yq,HE,hx,hy⟩:=Im hl;obtain ⟨rfl,hk⟩:=hbb;have h1:=Ci hr xq;have h2:=Ci hr yq;rw[hx] at h1;rw[hy] at h2;generalize Nd:a.eval xq=vx at h1;generalize hvy:a.eval yq=vy at h2;cases h1 with | p h1=>cases h1;cases h2 with | p h2=>
         cases h2;exact ⟨_,_,hk,.p (.int _ _),by simp[execOp,ho,hb,resolve,invoke,builtin,HE,Nd,hvy,run_max_int2]⟩
     . exact hbb.elim
   . exact h.elim
 . rename_i ho;rw[ho] at hv;simp[NW] at hv
 . rename_i ho;rw[ho] at hv;simp[NW] at hv
 . rename_i ho;rw[ho] at hv;simp[NW] at hv
 . rename_i ho;rw[ho] at hv;simp[NW] at hv
 . rename_i ho;rw[ho] at hv;simp[NW] at hv
 . rename_i ho;rw[ho] at hv;simp[NW] at hv
 . rename_i ho;rw[ho] at hv;simp[NW] at hv
 . have h1:=Yz (Rs.Ce (λ d hd=>hd.2) (Rs.all_bind h));exact Vq hr h1
end
end Go.Am
namespace Go.Am
open Go
mutual
theorem Qz {ρ:Nat->Option Nat}:∀{d:D},(∀id∈d.ids,ρ id=some id)->d.Ef ρ=d
  | .p _,_=>rfl
  | .agg cs,h=>by simp only[D.Ef];rw[Pe (cs:=cs) h]
  | .Dg cs,h=>by simp only[D.Ef];rw[Pe (cs:=cs) h]
  | .cl _,_=>rfl
  | .cz _,_=>rfl
  | .ref id _ _ _,h=>by simp only[D.Ef];rw[h id (by simp[D.ids])]
  | .ptr id _,h=>by simp only[D.Ef];rw[h id (by simp[D.ids])]
  | .pe _,_=>rfl
  | .ea id _ _ _,h=>by simp only[D.Ef];rw[h id (by simp[D.ids])]
  | .fn f cs,h=>by simp only[D.Ef];rw[Pe (cs:=cs) h]
  | .np,_=>rfl
  | .mv id,h=>by simp only[D.Ef];rw[h id (by simp[D.ids])]
  | .Di id _,h=>by simp only[D.Ef];rw[h id (by simp[D.ids])]
  | .LL id _ _,h=>by simp only[D.Ef];rw[h id (by simp[D.ids])]
  | .nr id _ _ _,h=>by simp only[D.Ef];rw[h id (by simp[D.ids])]
  | .Qs,_=>rfl
  | .bad,_=>rfl
theorem Pe {ρ:Nat->Option Nat}:∀{cs:List D},(∀id∈Da cs,ρ id=some id)->HD ρ cs=cs
  | [],_=>rfl
  | d::r,h=>by
    simp only[HD];rw[Qz (d:=d) (λ id hi=>h id (by simp[Da,hi])),Pe (cs:=r) (λ id hi=>h id (by simp[Da,hi]))]
end
def UM(env:List (Nat×D)):List (Nat×D)->Prop
 | []=>True
 | (t,d)::r=>get env t=some d/\UM env r
def C8(h:Hp):Hp->Prop
 | []=>True
 | (id,o)::r=>get h id=some o/\C8 h r
def Ew:List (Nat×D)->List Nat
 | []=>[]
 | (_,d)::r=>d.ids++Ew r
def DT:Hp->List Nat
 | []=>[]
 | (_,o)::r=>o.ids++DT r
def Gy(h1:Hp):Hp->Prop
 | []=>True
 | (id,o)::r=>(base<=id->get h1 id=some o)/\Gy h1 r
def Le(st st1:St):Prop:=
 st1.n=st.n/\UM st.env st1.env/\C8 st.hp st1.hp/\((Ew st1.env++DT st1.hp).all λ id=>(get st1.hp id).isSome)=true/\Gy st1.hp st.hp
theorem UM.spec{env:List (Nat×D)}:∀{e1:List (Nat×D)},UM env e1->∀t d,get e1 t=some d->get env t=some d
 | [],_,t,d,h=>by simp[get] at h
 | (k,x)::r,hl,t,d,h=>by
   rw[Cp] at h;split at h
   . rename_i e;subst e;cases h;exact hl.1
   . exact hl.2.spec t d h
theorem C8.spec{h:Hp}:∀{h1:Hp},C8 h h1->∀id o,get h1 id=some o->get h id=some o
 | [],_,t,d,hg=>by simp[get] at hg
 | (k,x)::r,hl,t,d,hg=>by
   rw[Cp] at hg;split at hg
   . rename_i e;subst e;cases hg;exact hl.1
   . exact hl.2.spec t d hg
theorem Gy.spec{h1:Hp}:∀{h:Hp},Gy h1 h->∀id o,base<=id->get h id=some o->get h1 id=some o
 | [],_,t,d,_,hg=>by simp[get] at hg
 | (k,x)::r,hl,t,d,hb,hg=>by
   rw[Cp] at hg;split at hg
   . rename_i e;subst e;cases hg;exact hl.1 hb
   . exact hl.2.spec t d hb hg
theorem Ua:∀{env:List (Nat×D)} {t:Nat} {d:D} {id:Nat},get env t=some d->id∈d.ids->id∈Ew env
 | [],t,d,id,h,_=>by simp[get] at h
 | (k,x)::r,t,d,id,h,hi=>by
   rw[Cp] at h;simp only[Ew,Av];split at h
   . cases h;exact .inl hi
   . exact .inr (Ua h hi)
theorem Q2:∀{h:Hp} {j:Nat} {o:AO} {id:Nat},get h j=some o->id∈o.ids->id∈DT h
 | [],t,d,id,h,_=>by simp[get] at h
 | (k,x)::r,t,d,id,h,hi=>by
   rw[Cp] at h;simp only[DT,Av];split at h
   . cases h;exact .inl hi
   . exact .inr (Q2 h hi)
theorem AO.Qz{ρ:Nat->Option Nat}{o:AO}(h:∀id∈o.ids,ρ id=some id):o.Ef ρ=o:=by
 cases o with
 | box cs ty=>simp only[AO.Ef];rw[Pe (cs:=cs) h]
 | _=>rfl
theorem Wk.refl(st:St):Wk st st:=λ _ _ _ F M h=>⟨F,M,h⟩
theorem Wk.trans{a b c:St}(h:Wk a b)(h':Wk b c):Wk a c:=λ x y w F M hr=>let ⟨F1,M1,h1⟩:=h x y w F M hr;h' x y w F1 M1 h1
theorem Rel.forget{c:Ctx}{st st1:St}{a:Act}{w:World}{F:Nat->Prop}{M:Nat->Mb}(hr:Rel c st a w F M)(h:Le st st1):Rel c st1 a w F M:=by
 have hc:=hr.keep.s0b;obtain ⟨hn,hE,hH,Aux,hK⟩:=h;have NY:∀id,id∈Ew st1.env++DT st1.hp->∃o,get st1.hp id=some o:=λ id hi=>Bx.1 (AB.1 Aux id hi)
 let ρ:Nat->Option Nat:=λ id=>if (get st1.hp id).isSome then some id else none
 have hρ:∀id j,ρ id=some j->sg st.hp id≠none->M j=M id/\sg st1.hp j=sg st.hp id:=by
   intro id j hj _;simp only[ρ] at hj;split at hj
   . rename_i hs;simp only[Al] at hj;subst hj;obtain ⟨o,ho⟩:=Bx.1 hs;refine ⟨rfl,?_⟩;simp[sg,ho,hH.spec _ _ ho]
   . cases hj
 have hid:∀id,(∃o,get st1.hp id=some o)->ρ id=some id:=λ id ⟨o,ho⟩=>by simp[ρ,ho]
 constructor
 . intro t d ht;have:=(hr.env t d (hE.spec t d ht)).Ef (M':=M) hρ;rwa[Qz (λ id hi=>hid id (NY id (BO _ (Ua ht hi))))] at this
 . rw[hn];exact hr.size
 . exact hr.defers
 . constructor
   . intro id o ho;have:=(hr.heap.obj id o (hH.spec id o ho)).Ef (M':=M) hρ;rwa[AO.Qz (λ i hi=>hid i (NY i (List.mem_append_right _ (Q2 ho hi))))] at this
   . intro id o Ou o' b ho Nf CI Eu;exact hr.heap.inj id o Ou o' b (hH.spec _ _ ho) (hH.spec _ _ Nf) CI Eu
 . have hk:=hr.keep;refine ⟨hk.os,hk.tape,hk.output,hk.size,hk.LR,hk.F0,hk.Fn,hk.Fl,?_,?_,hk.s0b⟩
   . rintro b ⟨id,o,ho,CI⟩;exact hk.own _ ⟨id,o,hH.spec _ _ ho,CI⟩
   . have G5:=hk.VB;have Cs:∀id,c.s0 id≠none->sg st.hp id≠none->sg st1.hp id=sg st.hp id:=by
       intro id h0 h1;have hb:=hc id h0;cases ho:get st.hp id with
       | none=>exact (h1 (by simp[sg,ho])).elim
       | some o=>simp[sg,ho,hK.spec id o hb ho]
     refine ⟨λ id hi=>?_,λ id sz n hi=>?_,λ id sz n kk hi=>?_⟩
     . obtain ⟨h1,h2⟩:=G5.1 id hi;exact ⟨by rw[Cs id (by rw[hi];simp) (by rw[h1];simp)];exact h1,h2⟩
     . obtain ⟨n',h1,h2,h3⟩:=G5.2.1 id sz n hi;exact ⟨n',by rw[Cs id (by rw[hi];simp) (by rw[h1];simp)];exact h1,h2,h3⟩
     . obtain ⟨n',k',h1,h2⟩:=G5.2.2 id sz n kk hi;exact ⟨n',k',by rw[Cs id (by rw[hi];simp) (by rw[h1];simp)];exact h1,h2⟩
theorem Wk.forget{st st1:St}(h:Le st st1):Wk st st1:=λ _ _ _ F M hr=>⟨F,M,hr.forget h⟩
section
variable {P:Program} {st:St} {x:Code} {k:Kt}
theorem Wk.nil{t q sz:Nat}(e:TypeId)(ht:get st.env t=some (.cl []))(hq:get st.hp q=none)(hs:0<sz):Wk st ⟨(t,.ref q 0 0 0)::st.env,(q,.arr e sz [])::st.hp,st.n⟩:=by
 intro c a w F M hr;obtain ⟨GG,h1⟩:=hr.To (e:=e) hq hs;refine ⟨F,_,⟨λ j d hj=>?_,GG.size,GG.defers,GG.heap,GG.keep⟩⟩;rw[Cp] at hj;split at hj
 . rename_i e1;subst e1;cases hj;have h2:=hr.env _ _ ht;generalize a.tmps.getD t undef=v at h2;cases h2 with | cl _ ad _ _=>exact h1 ad
 . exact GG.env j d hj
theorem Ai3{st1:St}{n:Nat}(hw:Wk st st1)(h:L P x k n st1):L P x k n st:=by
 cases n with
 | zero=>exact h.elim
 | succ n=>obtain ⟨st2,h1,h2⟩:=h;exact ⟨st2,hw.trans h1,h2⟩
theorem B5{β:Type}(S:β->St)(I:β->Prop)(μ:β->Nat)(b0:β)(h0:I b0)(hw:Wk st (S b0))
   (hs:∀b n,I b->(∀b' st',I b'->μ b'<μ b->Wk st' (S b')->L P x k n st')->X P x (.lp x n k) (S b)):X P (.loop x) k st:=by
 have key:∀n b,I b->μ b<n->L P x k n (S b):=by
   intro n
   induction n with
   | zero=>intro b _ h;exact (AZ _ h).elim
   | succ n ih=>
     intro b hb hm;exact ⟨S b,Wk.refl _,hs b n hb λ b' st' Rc Ct H0=>Ai3 H0 (ih b' Rc (by omega))⟩
 exact X5 _ (Ai3 hw (key (μ b0+1) b0 h0 (Nat.lt_succ_self _)))
end
end Go.Am
namespace Go.Am
open Go
def Rt(h0:List Nat)(hp:Hp)(d:D)(R:Hp->D->Prop)(T:List Nat):Prop:=
 T.Nodup/\(T.all λ id=>(get hp id).isSome)=true/\(h0.all λ id=>base<=id&&T.contains id)=true/\(T.filter (· <base)).length<=base/\
 R (pick hp (Oe T) T) (d.Ef (Oe T))
theorem Apl(h0:List Nat)(hp:Hp)(d:D)(R:Hp->D->Prop):Pc h0 hp d R=Rt h0 hp d R (DL hp (h0++d.ids)):=nd rfl
def Ep(h0:List Nat)(R:Hp->D->Prop)(r:Rs (D×Hp)):Prop:=r.all λ x=>Pc h0 x.2 x.1 R
theorem Aw6(h0:List Nat)(R:Hp->D->Prop)(p:Prop)(d:D)(h:Hp):Ep h0 R (.ret p (d,h))=(p/\Pc h0 h d R):=nd rfl
theorem BY{h0:List Nat}{hp:Hp}{d:D}{R:Hp->D->Prop}(h:Ep h0 R (CZ hp d)):Ub h0 hp d R:=Agz h
theorem C0{h0:List Nat}{hp:Hp}{d:D}{R:Hp->D->Prop}(h:Pc h0 hp d R):Ub h0 hp d R:=An9 h
theorem Av7(h0:List Nat)(hp:Hp)(x:Pd)(R:Hp->D->Prop):Ub h0 hp (.p x) R=Pc h0 hp (.p x) R:=by
 unfold Ub;simp only[Fj,bor,or_self]
attribute [go_sem] Apl Aw6 Av7 D.Ef HD
end Go.Am
end
