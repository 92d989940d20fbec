/- Texts of this proof, what it rests on, merged: part B. -/
import Derived.LoopN
import Derived.Scope
import Derived.Deep.Quiet
import Derived.Test.YtjbklifaekjilaaGreatDoorLpA
section
set_option linter.unusedVariables false
set_option linter.unusedSimpArgs false
namespace Go.Am
open Go
def bor(h:Hp)(d:D)(k:D->Hp->Prop):Prop:=
 match d with
 | .ref id off len N=>match get h id with
   | some (.arr _ _ es)=>N=es.length/\k (.p (.sl ((es.drop off).take len))) (froze h id)
   | some (.Nw _ es)=>N=es.length/\k (.p (.sl ((es.drop off).take len))) h
   | _=>False
 | .DI id n=>match get h id with
   | some (.DF _ _ sz kk rows none)=>n=rows.length/\k (.p (.sl (rows.map λ r=>[.sl r]))) (Cz h id (.Fv (I7 (.DF sz rows.length kk))))
   | _=>False
 | .cl es=>k (.p (.sl es)) h
 | d=>k d h
mutual
def Fu (h:Hp) (d:D) (k:D->Hp->Prop):Prop:=
  match d with
  | .agg cs=>QZ h cs λ ds h'=>k (.agg ds) h'
  | .Dv cs=>QZ h cs λ ds h'=>k (.Dv ds) h'
  | d=>bor h d k
def QZ:Hp->List D->(List D->Hp->Prop)->Prop
  | h,[],k=>k [] h
  | h,d::r,k=>Fu h d λ x h'=>QZ h' r λ xs h''=>k (x::xs) h''
end
def Alr(P:Program)(h:Hp)(t:TypeId)(x:D)(k:D->Prop):Prop:=
 match CJ P t with
 | some ti=>match ti.k,x with
   | .string,.p (.str l)=>k (.p (.int .i64 l.length))
   | .slice _,.p (.sl es)=>k (.p (.int .i64 es.length))
   | .slice _,.cl es=>k (.p (.int .i64 es.length))
   | .slice _,.ref id _ len N=>(match sg h id with | some (.arr _ m)=>N=m | _=>False)/\k (.p (.int .i64 len))
   | .slice _,.DI _ n=>k (.p (.int .i64 n))
   | .slice _,.nr _ _ len _=>k (.p (.int .i64 len))
   | .array n _,_=>k (.p (.int .i64 n))
   | _,_=>False
 | none=>False
def NM(P:Program)(st:St)(q:Nat)(b:Builtin)(ts:Array TypeId)(args:List D)(k:D->Hp->Prop):Prop:=
 match b,args with
 | .len,[x]=>match ts[0]? with
   | some t=>Alr P st.hp t x λ d=>k d st.hp
   | none=>False
 | .append,[s,x]=>match ts[0]?,ts[1]? with
   | some t,some t2=>Aaa P st.hp q t t2 s x k
   | _,_=>False
 | .copy,[s,x]=>match ts[0]?,ts[1]? with
   | some t,some _=>w9 P st.hp t s x k
   | _,_=>False
 | .min,[.p (.int k1 x),.p (.int k2 y)]=>k1=k2/\k (.p (.int k1 (if y<x then y else x))) st.hp
 | .max,[.p (.int k1 x),.p (.int k2 y)]=>k1=k2/\k (.p (.int k1 (if x<y then y else x))) st.hp
 | _,_=>False
inductive Rs (α:Type) where
 | fail
 | ret (p:Prop) (a:α)
 | split (b:Bool) (x y:Rs α)
def Rs.all{α:Type}:Rs α->(α->Prop)->Prop
 | .fail,_=>False
 | .ret p a,k=>p/\k a
 | .split b x y,k=>XD b (x.all k) (y.all k)
def Rs.and{α:Type}(p:Prop):Rs α->Rs α
 | .fail=> .fail
 | .ret q a=> .ret (p/\q) a
 | .split b x y=> .split b (x.and p) (y.and p)
def Rs.bind{α β:Type}:Rs α->(α->Rs β)->Rs β
 | .fail,_=> .fail
 | .ret p a,f=>(f a).and p
 | .split b x y,f=> .split b (x.bind f) (y.bind f)
theorem XD.mono{b:Bool}{x y x' y':Prop}(h:XD b x y)(hx:x->x')(hy:y->y'):XD b x' y':=⟨λ e=>hx (h.1 e),λ e=>hy (h.2 e)⟩
def Rs.JY{α:Type}(S:Prop):Rs α->(α->Prop)->Prop
 | .fail,_=>S
 | .ret p a,k=>p/\k a
 | .split b x y,k=>XD b (x.JY S k) (y.JY S k)
theorem D8{α:Type}{S:Prop}{k:α->Prop}:∀{r:Rs α},r.JY S k->r.all k∨S
 | .fail,h=> .inr h
 | .ret p a,h=> .inl h
 | .split b x y,h=>by
   cases b
   . rcases D8 (h.2 rfl) with h1 | h1
     . exact .inl ⟨λ e=>(AJ e).elim,λ _=>h1⟩
     . exact .inr h1
   . rcases D8 (h.1 rfl) with h1 | h1
     . exact .inl ⟨λ _=>h1,λ e=>(AJ e.symm).elim⟩
     . exact .inr h1
theorem Dx{α:Type}{p:Prop}{k:α->Prop}:∀{r:Rs α},(r.and p).all k->p/\r.all k
 | .fail,h=>h.elim
 | .ret q a,h=>⟨h.1.1,h.1.2,h.2⟩
 | .split b x y,h=>by
   have h1:b=true->p/\x.all k:=λ e=>Dx (h.1 e);have h2:b=false->p/\y.all k:=λ e=>Dx (h.2 e);refine ⟨?_,λ e=>(h1 e).2,λ e=>(h2 e).2⟩;cases b
   . exact (h2 rfl).1
   . exact (h1 rfl).1
theorem Ca{α:Type}{k k':α->Prop}(hk:∀a,k a->k' a):∀{r:Rs α},r.all k->r.all k'
 | .fail,h=>h.elim
 | .ret q a,h=>⟨h.1,hk _ h.2⟩
 | .split b x y,h=>XD.mono h (Ca hk) (Ca hk)
theorem Ce{α β:Type}{f:α->Rs β}{k:β->Prop}:∀{r:Rs α},(r.bind f).all k->r.all (λ a=>(f a).all k)
 | .fail,h=>h.elim
 | .ret p a,h=>Dx h
 | .split b x y,h=>XD.mono h Ce Ce
def WE(ti:TI)(cs:List D)(off:Nat):Rs D:=
 if ti.k.isAgg then .ret (off+ti.size<=cs.length) (.agg ((cs.drop off).take ti.size))
 else match cs[off]? with
   | some d=> .ret True d
   | none=> .fail
theorem Rr{ti:TI}{cs:List D}{off:Nat}{k:D->Prop}(h:(WE ti cs off).all k):T1 ti cs off k:=by
 unfold WE at h;unfold T1;split at h
 . rename_i e;rw[if_pos e];exact h
 . rename_i e;rw[if_neg e];split at h<;>simp_all [Rs.all]
def Ru(ti:TI)(cs:List Pd)(off:Nat):Rs D:=
 if ti.k.isAgg then .ret (off+ti.size<=cs.length) (.agg (((cs.drop off).take ti.size).map D.p))
 else match cs[off]? with
   | some d=> .ret True (.p d)
   | none=> .fail
theorem Pf{ti:TI}{cs:List Pd}{off:Nat}{k:D->Prop}(h:(Ru ti cs off).all k):Sn ti cs off k:=by
 unfold Ru at h;unfold Sn;split at h
 . rename_i e;rw[if_pos e];exact h
 . rename_i e;rw[if_neg e];split at h<;>simp_all [Rs.all]
def Nf(P:Program)(h:Hp)(t:TypeId)(d:D):Rs D:=
 match CJ P t,d with
 | some ti,.ptr id off=>match get h id with
   | some (.box cs _)=>WE ti cs off
   | _=> .fail
 | some ti,.pe cs=>Ru ti cs 0
 | some ti,.ea id i c N=>match get h id with
   | some (.arr _ _ es)=>(Ru ti (es.getD i []) c).and (N=es.length)
   | some (.Nw _ es)=>(Ru ti (es.getD i []) c).and (N=es.length)
   | _=> .fail
 | some ti,.M9 id i n=>match get h id with
   | some (.DF _ _ _ kk rows hole)=> .ret (n=rows.length/\hole≠some i/\ti.k.isAgg=false) (.nr id i (rows.getD i []).length kk)
   | _=> .fail
 | _,_=> .fail
theorem WN{P:Program}{h:Hp}{t:TypeId}{d:D}{k:D->Prop}(hh:(Nf P h t d).all k):WO P h t d k:=by
 unfold Nf at hh;unfold WO;split at hh
 . rename_i h1;simp only[h1];split at hh
   . rename_i h2;simp only[h2];exact Rr hh
   . exact hh.elim
 . rename_i h1;simp only[h1];exact Pf hh
 . rename_i h1;simp only[h1];split at hh
   . rename_i h2;simp only[h2];exact ⟨(Dx hh).1,Pf (Dx hh).2⟩
   . rename_i h2;simp only[h2];exact ⟨(Dx hh).1,Pf (Dx hh).2⟩
   . exact hh.elim
 . rename_i h1;simp only[h1];split at hh
   . rename_i h2;simp only[h2];exact hh
   . exact hh.elim
 . exact hh.elim
def Asi(op:BinOp)(x y:D):Rs D:=
 match op,x,y with
 | .add,.p (.int k1 a),.p (.int k2 b)=> .ret (k1=k2) (.p (.int k1 (k1.wrap (a+b))))
 | .sub,.p (.int k1 a),.p (.int k2 b)=> .ret (k1=k2) (.p (.int k1 (k1.wrap (a - b))))
 | .mul,.p (.int k1 a),.p (.int k2 b)=> .ret (k1=k2) (.p (.int k1 (k1.wrap (a*b))))
 | .quo,.p (.int k1 a),.p (.int k2 b)=> .ret (k1=k2/\b≠0) (.p (.int k1 (k1.wrap (a.tdiv b))))
 | .rem,.p (.int k1 a),.p (.int k2 b)=> .ret (k1=k2/\b≠0) (.p (.int k1 (a.tmod b)))
 | .eql,.p (.int k1 a),.p (.int k2 b)=> .ret (k1=k2) (.p (.bool (decide (a=b))))
 | .neq,.p (.int k1 a),.p (.int k2 b)=> .ret (k1=k2) (.p (.bool (!decide (a=b))))
 | .lss,.p (.int k1 a),.p (.int k2 b)=> .ret (k1=k2) (.p (.bool (decide (a<b))))
 | .leq,.p (.int k1 a),.p (.int k2 b)=> .ret (k1=k2) (.p (.bool (decide (a<=b))))
 | .gtr,.p (.int k1 a),.p (.int k2 b)=> .ret (k1=k2) (.p (.bool (decide (b<a))))
 | .geq,.p (.int k1 a),.p (.int k2 b)=> .ret (k1=k2) (.p (.bool (decide (b<=a))))
 | .and,.p (.int k1 a),.p (.int k2 b)=> .ret (k1=k2) (.p (.int k1 (k1.wrap (BitVec.ofInt k1.bits a&&& BitVec.ofInt k1.bits b).toNat)))
 | .shr,.p (.int k1 a),.p (.int _ b)=> .ret (0<=b) (.p (.int k1 (a.fdiv (2 ^ (min b.toNat k1.bits)))))
 | .add,.p (.str a),.p (.str b)=> .ret (a.length+b.length<=maxLen) (.p (.str (a++b)))
 | .eql,.p (.str a),.p (.str b)=> .ret True (.p (.bool (decide (a=b))))
 | .neq,.p (.str a),.p (.str b)=> .ret True (.p (.bool (!decide (a=b))))
 | _,_,_=> .fail
theorem Apn{op:BinOp}{x y:D}{k:D->Prop}(h:(Asi op x y).all k):Asj op x y k:=by
 unfold Asi at h;split at h<;>first
   | exact h.elim
   | exact h
   | exact ⟨h.1.1,h.1.2,h.2⟩
   | exact h.2
def Ae7(P:Program)(op:BinOp)(t:TypeId)(x y:D):Rs D:=
 match op,x,y with
 | .eql,.p (.bool a),.p (.bool b)=>(match CJ P t with | some ⟨_,_,.bool,_⟩=> .ret True (.p (.bool (a==b))) | _=> .fail)
 | .neq,.p (.bool a),.p (.bool b)=>(match CJ P t with | some ⟨_,_,.bool,_⟩=> .ret True (.p (.bool (!(a==b)))) | _=> .fail)
 | .eql,.agg xs,.agg ys=>(match UW P t xs ys with | some b=> .ret True (.p (.bool b)) | none=> .fail)
 | .neq,.agg xs,.agg ys=>(match UW P t xs ys with | some b=> .ret True (.p (.bool (!b))) | none=> .fail)
 | .eql,.p (.sl es),.cl []=>(match CJ P t with | some ⟨_,_,.slice _,_⟩=> .ret (es≠[]) (.p (.bool false)) | _=> .fail)
 | .eql,.cl es,.cl []=>(match CJ P t with | some ⟨_,_,.slice _,_⟩=> .ret True (.p (.bool es.isEmpty)) | _=> .fail)
 | op,x,y=>Asi op x y
theorem Aj3{P:Program}{op:BinOp}{t:TypeId}{x y:D}{k:D->Prop}(h:(Ae7 P op t x y).all k):NO P op t x y k:=by
 unfold Ae7 at h;split at h
 . split at h
   . rename_i h1;simp only[NO,h1];exact h.2
   . exact h.elim
 . split at h
   . rename_i h1;simp only[NO,h1];exact h.2
   . exact h.elim
 . split at h
   . rename_i h1;simp only[NO,h1];exact h.2
   . exact h.elim
 . split at h
   . rename_i h1;simp only[NO,h1];exact h.2
   . exact h.elim
 . split at h
   . rename_i h1;simp only[NO,h1];exact h
   . exact h.elim
 . split at h
   . rename_i h1;simp only[NO,h1];exact h.2
   . exact h.elim
 . rename_i n1 n2 n3 n4 n5 n6;have h2:=Apn h;unfold NO;split
   . exact (n1 _ _ rfl rfl rfl).elim
   . exact (n2 _ _ rfl rfl rfl).elim
   . exact (n3 _ _ rfl rfl rfl).elim
   . exact (n4 _ _ rfl rfl rfl).elim
   . exact (n5 _ rfl rfl rfl).elim
   . exact (n6 _ rfl rfl rfl).elim
   . exact h2
def unR(op:UnOp)(x:D):Rs D:=
 match op,x with
 | .not,.p (.bool b)=> .ret True (.p (.bool (!b)))
 | .neg,.p (.int kd n)=> .ret True (.p (.int kd (kd.wrap (0 - n))))
 | _,_=> .fail
theorem Aql{op:UnOp}{x:D}{k:D->Prop}(h:(unR op x).all k):unD op x k:=by
 unfold unR at h;split at h<;>first | exact h.elim | exact h.2
def Adh(c a b:D):Rs D:=
 match c,a,b with
 | .p (.bool t),.p (.bool x),.p (.bool y)=> .ret True (.p (.bool (if t then x else y)))
 | .p (.bool t),a,b=> .split t (.ret True a) (.ret True b)
 | _,_,_=> .fail
theorem Afh{c x y:D}{k:D->Prop}(h:(Adh c x y).all k):ZJ c x y k:=by
 unfold Adh at h;unfold ZJ;split at h
 . exact h.2
 . rename_i t a b Dt;split
   . rename_i e1 e2 e3;exact (Dt _ _ rfl rfl).elim
   . rename_i e _;cases e;exact XD.mono h (λ h=>h.2) (λ h=>h.2)
   . rename_i h1 _;exact (h1 _ rfl).elim
 . exact h.elim
def Ae6(P:Program)(s d:TypeId)(x:D):Rs D:=
 match CJ P s,CJ P d,x with
 | some _,some ⟨_,_,.int kd,_⟩,.p (.int _ n)=> .ret True (.p (.int kd (kd.wrap n)))
 | some _,some ⟨_,_,.string,_⟩,.p (.str l)=> .ret True (.p (.str l))
 | some ⟨_,_,.slice e,_⟩,some ⟨_,_,.string,_⟩,.p (.sl es)=>match CJ P e,Ta es with
   | some ⟨_,_,.int .u8,_⟩,some l=> .ret True (.p (.str l))
   | _,_=> .fail
 | _,_,_=> .fail
theorem Aip{P:Program}{s d:TypeId}{x:D}{k:D->Prop}(h:(Ae6 P s d x).all k):z6 P s d x k:=by
 unfold Ae6 at h;unfold z6;split at h
 . rename_i h1 h2;simp only[h1,h2];exact h.2
 . rename_i h1 h2;simp only[h1,h2];exact h.2
 . rename_i h1 h2;simp only[h1,h2];split at h
   . rename_i h3 h4;simp only[h3,h4];exact h.2
   . exact h.elim
 . exact h.elim
def Acm(h:Hp)(id N:Nat):Prop:=match sg h id with | some (.arr _ m)=>N=m | _=>False
def G9(P:Program)(t:TypeId)(x:D)(f:Nat)(h:Hp):Rs D:=
 match CJ P t with
 | some ⟨_,_,.struct fs,_⟩=>match fs[f]? with
   | some (o,u)=>match CJ P u with
     | some ti=>match x with
       | .ptr id off=> .ret (ti.size≠0) (.ptr id (off+o))
       | .pe cs=> .ret (ti.size≠0) (.pe (cs.drop o))
       | .ea id i c N=> .ret (ti.size≠0/\Acm h id N) (.ea id i (c+o) N)
       | _=> .fail
     | none=> .fail
   | none=> .fail
 | _=> .fail
theorem US{P:Program}{t:TypeId}{x:D}{f:Nat}{h:Hp}{k:D->Prop}(hh:(G9 P t x f h).all k):JS P t x f h k:=by
 unfold G9 at hh;unfold JS;split at hh
 . rename_i h1;simp only[h1];split at hh
   . rename_i h2;simp only[h2];split at hh
     . rename_i h3;simp only[h3];split at hh
       . exact hh
       . exact hh
       . exact ⟨hh.1.1,hh.1.2,hh.2⟩
       . exact hh.elim
     . exact hh.elim
   . exact hh.elim
 . exact hh.elim
def Yt(P:Program)(t:TypeId)(x:D)(f:Nat):Rs D:=
 match CJ P t with
 | some ⟨_,_,.struct fs,_⟩=>match fs[f]?,x with
   | some (o,u),.agg cs=>match CJ P u with
     | some ti=>WE ti cs o
     | none=> .fail
   | _,_=> .fail
 | _=> .fail
theorem Acg{P:Program}{t:TypeId}{x:D}{f:Nat}{k:D->Prop}(hh:(Yt P t x f).all k):UR P t x f k:=by
 unfold Yt at hh;unfold UR;split at hh
 . rename_i h1;simp only[h1];split at hh
   . rename_i h2;simp only[h2];split at hh
     . rename_i h3;simp only[h3];exact Rr hh
     . exact hh.elim
   . exact hh.elim
 . exact hh.elim
def G6(P:Program)(t:TypeId)(x i:D)(h:Hp):Rs D:=
 match CJ P t,i with
 | some ⟨_,_,.slice e,_⟩,.p (.int _ n)=>match CJ P e with
   | some ti=>match x with
     | .p (.sl es)=> .ret ((0<=n/\n<es.length)/\(es.getD n.toNat []).length=ti.size) (.pe (es.getD n.toNat []))
     | .cl es=> .ret ((0<=n/\n<es.length)/\(es.getD n.toNat []).length=ti.size) (.pe (es.getD n.toNat []))
     | .ref id off len N=>match sg h id with
       | some (.arr sz m)=> .ret ((0<=n/\n<len)/\sz=ti.size/\N=m) (.ea id (off+n.toNat) 0 N)
       | _=> .fail
     | .DI id N=> .ret ((0<=n/\n<N)/\ti.size=1) (.M9 id n.toNat N)
     | _=> .fail
   | none=> .fail
 | some ⟨_,_,.array m e,_⟩,.p (.int _ n)=>match CJ P e,x with
   | some ti,.ptr id off=> .ret (0<=n/\n<m) (.ptr id (off+n.toNat*ti.size))
   | some ti,.pe cs=> .ret (0<=n/\n<m) (.pe (cs.drop (n.toNat*ti.size)))
   | _,_=> .fail
 | _,_=> .fail
theorem Un{P:Program}{t:TypeId}{x i:D}{h:Hp}{k:D->Prop}(hh:(G6 P t x i h).all k):JO P t x i h k:=by
 unfold G6 at hh;unfold JO;split at hh
 . rename_i h1;simp only[h1];split at hh
   . rename_i h2;simp only[h2];split at hh
     . exact ⟨hh.1.1,hh.1.2,hh.2⟩
     . exact ⟨hh.1.1,hh.1.2,hh.2⟩
     . split at hh
       . rename_i h3;simp only[h3];exact ⟨hh.1.1,hh.1.2.1,hh.1.2.2,hh.2⟩
       . exact hh.elim
     . exact ⟨hh.1.1,hh.1.2,hh.2⟩
     . exact hh.elim
   . exact hh.elim
 . rename_i h1;simp only[h1];split at hh
   . rename_i h2;simp only[h2];exact hh
   . rename_i h2;simp only[h2];exact hh
   . exact hh.elim
 . exact hh.elim
def Ye(P:Program)(t:TypeId)(x i:D):Rs D:=
 match CJ P t,x,i with
 | some ⟨_,_,.string,_⟩,.p (.str l),.p (.int _ n)=> .ret (0<=n/\n<l.length) (.p (.int .u8 (l.getD n.toNat 0).toNat))
 | some ⟨_,_,.array m e,_⟩,.agg cs,.p (.int _ n)=>match CJ P e with
   | some ti=>(WE ti cs (n.toNat*ti.size)).and (0<=n/\n<m)
   | none=> .fail
 | _,_,_=> .fail
theorem Abz{P:Program}{t:TypeId}{x i:D}{k:D->Prop}(hh:(Ye P t x i).all k):Um P t x i k:=by
 unfold Ye at hh;unfold Um;split at hh
 . rename_i h1;simp only[h1];exact hh
 . rename_i h1;simp only[h1];split at hh
   . rename_i h2;simp only[h2];exact ⟨(Dx hh).1,Rr (Dx hh).2⟩
   . exact hh.elim
 . exact hh.elim
def Ei(st:St)(o:Option Operand)(Yx:Int):Rs Int:=
 match o with
 | none=> .ret True Yx
 | some x=>match ev st x with
   | .p (.int _ n)=> .ret True n
   | _=> .fail
theorem Acp{st:St}{o:Option Operand}{n:Int}{k:Int->Prop}(h:(Ei st o n).all k):Fp st o n k:=by
 unfold Ei at h;unfold Fp;split at h
 . exact h.2
 . split at h
   . rename_i h1;simp only[h1];exact h.2
   . exact h.elim
def Ka(n:Nat)(es:List (List Pd)):Prop:=∀e∈es,e.length=n
theorem Ka.get{n:Nat}{es:List (List Pd)}(h:Ka n es):∀(i:Nat) e,es[i]?=some e->e.length=n:=λ _ e he=>h e (AQ he)
def H2(P:Program)(st:St)(t:TypeId)(x:D)(lo hi mx:Option Operand):Rs D:=
 match CJ P t,x with
 | some ⟨_,_,.string,_⟩,.p (.str l)=>(Ei st lo 0).bind λ a=>(Ei st hi l.length).bind λ b=>
     .ret (mx.isNone=true/\(0<=a/\a<=b/\b<=l.length)) (.p (.str ((l.take b.toNat).drop a.toNat)))
 | some ⟨_,_,.slice e,_⟩,x=>match CJ P e with
   | some ti=>match x with
     | .p (.sl es)=>match mx with
       | none=>(Ei st lo 0).bind λ a=>(Ei st hi es.length).bind λ b=> .ret ((0<=a/\a<=b/\b<=es.length)/\Ka ti.size es) (.p (.sl ((es.take b.toNat).drop a.toNat)))
       | some m=>(Ei st lo 0).bind λ a=>(Ei st hi es.length).bind λ b=>(Ei st (some m) 0).bind λ c=>
           .ret ((0<=a/\a<=b/\b=c/\c<=es.length)/\Ka ti.size es/\hi.isSome=true) (.cz ((es.take b.toNat).drop a.toNat))
     | .ref id off len N=>match sg st.hp id with
       | some (.arr sz m)=>(Ei st lo 0).bind λ a=>(Ei st hi len).bind λ b=>
           .ret (mx.isNone=true/\sz=ti.size/\(0<=a/\a<=b/\b<=len)/\N=m) (.ref id (off+a.toNat) (b - a).toNat N)
       | _=> .fail
     | _=> .fail
   | none=> .fail
 | _,_=> .fail
theorem bd{st:St}{o:Option Operand}{n:Int}{f:Int->Rs D}{k:D->Prop}{k':Int->Prop}(h:((Ei st o n).bind f).all k)(hf:∀a,(f a).all k->k' a):Fp st o n k':=
 Acp (Ca hf (Ce h))
theorem R4{st:St}{o:Option Operand}{n:Int}{q:Prop}{k:Int->Prop}(h:Fp st o n (λ a=>q/\k a)):q/\Fp st o n k:=by
 unfold Fp at*;cases o with
 | none=>exact h
 | some x=>
   simp only at h ⊢;split at h
   . rename_i h1;exact h
   . exact h.elim
theorem SP{st:St}{o:Option Operand}{n:Int}{k k':Int->Prop}(hk:∀a,k a->k' a)(h:Fp st o n k):Fp st o n k':=by
 unfold Fp at*;split at h
 . exact hk _ h
 . split at h
   . exact hk _ h
   . exact h.elim
theorem Aaw{P:Program}{st:St}{t:TypeId}{x:D}{lo hi mx:Option Operand}{k:D->Prop}(hh:(H2 P st t x lo hi mx).all k):TG P st t x lo hi mx k:=by
 unfold H2 at hh;unfold TG;split at hh
 . rename_i h1;simp only[h1];refine R4 (bd hh λ a h=>R4 (bd h λ b h=>?_));exact ⟨h.1.1,h.1.2,h.2⟩
 . rename_i h1;split at hh
   case h_2=>exact hh.elim
   rename_i h2;split at hh
   . rw[h1];simp only[h2];split at hh
     . exact bd hh λ a h=>bd h λ b h=>⟨h.1.1,h.1.2.get,h.2⟩
     . exact bd hh λ a h=>bd h λ b h=>bd h λ c h=>⟨h.1.1,h.1.2.1.get,h.1.2.2,h.2⟩
   . rw[h1];simp only[h2];split at hh
     . rename_i h3;simp only[h3];have h4:=bd hh λ a h=>bd h λ b h=>(⟨h.1.1,h.1.2.1,h.1.2.2.1,h.1.2.2.2,h.2⟩:mx.isNone=true/\_/\_/\_/\_);have h5:=R4 (SP (λ a h=>R4 h) h4);have h6:=R4 (SP (λ a h=>R4 h) h5.2);exact ⟨h5.1,h6.1,h6.2⟩
     . exact hh.elim
   . exact hh.elim
 . exact hh.elim
def Vi(P:Program)(st:St)(t:TypeId)(parts:List (Nat×Operand)):Rs D:=
 match CJ P t with
 | some ⟨_,_,.struct fs,z⟩=>
   match LJ P fs,z with
   | some pl,.agg zs=>match GZ (λ i=>pl[i]?) zs (parts.map λ q=>(q.1,ev st q.2)) with
     | some cs=> .ret True (.agg cs)
     | none=> .fail
   | _,_=> .fail
 | some ⟨_,_,.array _ e,z⟩=>
   match CJ P e,z with
   | some ti,.agg zs=>match GZ (λ i=>some (i*ti.size,ti.size)) zs (parts.map λ q=>(q.1,ev st q.2)) with
     | some cs=> .ret True (.agg cs)
     | none=> .fail
   | _,_=> .fail
 | _=> .fail
theorem Aco{P:Program}{st:St}{t:TypeId}{parts:List (Nat×Operand)}{k:D->Prop}(hh:(Vi P st t parts).all k):Vj P st t parts k:=by
 unfold Vi at hh;unfold Vj;split at hh
 . rename_i h1;simp only[h1];split at hh
   . rename_i h2;simp only[h2];split at hh
     . rename_i h3;simp only[h3];exact hh.2
     . exact hh.elim
   . exact hh.elim
 . rename_i h1;simp only[h1];split at hh
   . rename_i h2;simp only[h2];split at hh
     . rename_i h3;simp only[h3];exact hh.2
     . exact hh.elim
   . exact hh.elim
 . exact hh.elim
def QM(x:D)(i:Nat):Rs D:=
 match x with
 | .Dv cs=>match cs[i]? with
   | some d=> .ret True d
   | none=> .fail
 | _=> .fail
theorem Yv{x:D}{i:Nat}{k:D->Prop}(hh:(QM x i).all k):Nx x i k:=by
 unfold QM at hh;unfold Nx;split at hh
 . split at hh
   . rename_i h1;simp only[h1];exact hh.2
   . exact hh.elim
 . exact hh.elim
def LQ(P:Program)(h:Hp)(t:TypeId)(x i:D)(ok:Bool):Rs D:=
 match mapOf P t,x,i with
 | some (kk,z),.mv id,.p key=>match get h id with
   | some (.mp l)=> .ret (kk.fit key=true/\RC key l) (EV z ok (Ub key l))
   | _=> .fail
 | _,_,_=> .fail
theorem ZQ{P:Program}{h:Hp}{t:TypeId}{x i:D}{ok:Bool}{k:D->Prop}(hh:(LQ P h t x i ok).all k):Ql P h t x i ok k:=by
 unfold LQ at hh;unfold Ql;split at hh
 . rename_i h0;simp only[h0];split at hh
   . rename_i h1;simp only[h1];exact hh
   . exact hh.elim
 . exact hh.elim
def Kr(P:Program)(h:Hp)(t:TypeId)(m i v:D):Rs Hp:=
 match mapOf P t,m,i,v with
 | some (kk,_),.mv id,.p key,.p x=>match get h id with
   | some (.mp l)=> .ret (kk.fit key=true/\RC key l/\x.flat=true) (Cz h id (.mp (KZ key x l)))
   | _=> .fail
 | _,_,_,_=> .fail
theorem Abj{P:Program}{h:Hp}{t:TypeId}{m i v:D}{k:Hp->Prop}(hh:(Kr P h t m i v).all k):Ud P h t m i v k:=by
 unfold Kr at hh;unfold Ud;split at hh
 . rename_i h0;simp only[h0];split at hh
   . rename_i h1;simp only[h1];exact hh
   . exact hh.elim
 . exact hh.elim
def Kj(P:Program)(st:St)(op:Op):Rs D:=
 match op with
 | .move x | .assign x=> .ret True (ev st x)
 | .pick c a b=>Adh (ev st c) (ev st a) (ev st b)
 | .binOp op t x y _=>Ae7 P op t (ev st x) (ev st y)
 | .unOp op _ x=>unR op (ev st x)
 | .nilCheck x=>match ev st x with
   | .ptr id off=> .ret True (.ptr id off)
   | .pe cs=> .ret True (.pe cs)
   | .ea id i c N=> .ret (Acm st.hp id N) (.ea id i c N)
   | _=> .fail
 | .convert s d x=>Ae6 P s d (ev st x)
 | .build t parts=>Vi P st t parts.toList
 | .load t a=>Nf P st.hp t (ev st a)
 | .slice t x lo hi mx=>H2 P st t (ev st x) lo hi mx
 | .fieldAddr t x f=>G9 P t (ev st x) f st.hp
 | .field t x f=>Yt P t (ev st x) f
 | .indexAddr t x i=>G6 P t (ev st x) (ev st i) st.hp
 | .index t x i=>Ye P t (ev st x) (ev st i)
 | .extract t i=>QM (ev st t) i
 | .lookup t x i ok=>LQ P st.hp t (ev st x) (ev st i) ok
 | .makeFunc (.func f) first cap=> .ret (first.size=0) (.fn f (cap.toList.map (ev st)))
 | _=> .fail
theorem Ze{P:Program}{st:St}{op:Op}{k:D->Prop}(hh:(Kj P st op).all k):vOp P st op k:=by
 unfold Kj at hh;unfold vOp;split at hh
 . exact hh.2
 . exact hh.2
 . exact Afh hh
 . exact Aj3 hh
 . exact Aql hh
 . split at hh
   . rename_i h1;simp only[h1];exact hh.2
   . rename_i h1;simp only[h1];exact hh.2
   . rename_i h1;simp only[h1];exact hh
   . exact hh.elim
 . exact Aip hh
 . exact Aco hh
 . exact WN hh
 . exact Aaw hh
 . exact US hh
 . exact Acg hh
 . exact Un hh
 . exact Abz hh
 . exact Yv hh
 . exact ZQ hh
 . exact hh
 . exact hh.elim
def VQ(h:Hp)(d:D):Rs (Pd×Hp):=
 match d with
 | .p x=> .ret True (x,h)
 | .cl es=> .ret True (.sl es,h)
 | .cz es=> .ret True (.sl es,h)
 | .ref id off len N=>match get h id with
   | some (.arr _ _ es)=> .ret (N=es.length) (.sl ((es.drop off).take len),froze h id)
   | some (.Nw _ es)=> .ret (N=es.length) (.sl ((es.drop off).take len),h)
   | _=> .fail
 | .DI id n=>match get h id with
   | some (.DF _ _ sz kk rows none)=> .ret (n=rows.length) (.sl (rows.map λ r=>[.sl r]),Cz h id (.Fv (I7 (.DF sz rows.length kk))))
   | _=> .fail
 | _=> .fail
theorem Al2{h:Hp}{d:D}{k:Pd->Hp->Prop}(hh:(VQ h d).all (λ x=>k x.1 x.2)):KW h d k:=by
 unfold VQ at hh;unfold KW;split at hh
 . exact hh.2
 . exact hh.2
 . exact hh.2
 . split at hh
   . rename_i h1;simp only[h1];exact hh
   . rename_i h1;simp only[h1];exact hh
   . exact hh.elim
 . split at hh
   . rename_i h1;simp only[h1];exact hh
   . exact hh.elim
 . exact hh.elim
def It:Hp->List D->Rs (List Pd×Hp)
 | h,[]=> .ret True ([],h)
 | h,d::r=>(VQ h d).bind λ x=>(It x.2 r).bind λ y=> .ret True (x.1::y.1,y.2)
theorem WD{h:Hp}{d:D}{k k':Pd->Hp->Prop}(hk:∀x h,k x h->k' x h)(hh:KW h d k):KW h d k':=by
 unfold KW at*;cases d with
 | p x=>exact hk _ _ hh
 | cl es=>exact hk _ _ hh
 | cz es=>exact hk _ _ hh
 | ref id off len N=>
   simp only at hh ⊢;split at hh
   . exact ⟨hh.1,hk _ _ hh.2⟩
   . exact ⟨hh.1,hk _ _ hh.2⟩
   . exact hh.elim
 | DI id n=>
   simp only at hh ⊢;split at hh
   . exact ⟨hh.1,hk _ _ hh.2⟩
   . exact hh.elim
 | _=>exact hh
theorem LH:∀{ds:List D} {h:Hp} {k k':List Pd->Hp->Prop},(∀x h,k x h->k' x h)->HP h ds k->HP h ds k'
 | [],h,k,k',hk,hh=>hk _ _ hh
 | d::r,h,k,k',hk,hh=>WD (λ x h' h1=>LH (λ xs h'' h2=>hk _ _ h2) h1) hh
theorem WB:∀{ds:List D} {h:Hp} {k:List Pd->Hp->Prop},(It h ds).all (λ x=>k x.1 x.2)->HP h ds k
 | [],h,k,hh=>hh.2
 | d::r,h,k,hh=>by
   simp only[It] at hh;exact Al2 (Ca (λ x h1=>WB (Ca (λ y h2=>h2.2) (Ce h1))) (Ce hh))
theorem Pe{ds:List D}{h:Hp}{K:List Pd×Hp->Prop}(hh:(It h ds).all K):HP h ds (λ x h=>K (x,h)):=WB (k:=λ x h=>K (x,h)) hh
def TD(h:Hp)(d:D):Rs (List (List Pd)):=
 match d with
 | .p (.sl ys)=> .ret True ys
 | .p (.str l)=> .ret True (EH l)
 | .cl ys=> .ret True ys
 | .ref id off len N=>match get h id with
   | some (.arr _ _ es)=> .ret (N=es.length) ((es.drop off).take len)
   | some (.Nw _ es)=> .ret (N=es.length) ((es.drop off).take len)
   | _=> .fail
 | _=> .fail
theorem Zk{h:Hp}{d:D}{k:List (List Pd)->Prop}(hh:(TD h d).all k):LA h d k:=by
 unfold TD at hh;unfold LA;split at hh
 . exact hh.2
 . exact hh.2
 . exact hh.2
 . split at hh
   . rename_i h1;simp only[h1];exact hh
   . rename_i h1;simp only[h1];exact hh
   . exact hh.elim
 . exact hh.elim
def XN{α:Type}:Nat->Rs α->Rs α
 | 0,r=>r
 | _+1,_=> .fail
theorem O3{α:Type}{n:Nat}{r:Rs α}{k:α->Prop}(h:(XN n r).all k):n=0/\r.all k:=by
 cases n with
 | zero=>exact ⟨rfl,h⟩
 | succ n=>exact h.elim
theorem Wq{α:Type}{n:Nat}{r:Rs α}{k:α->Prop}(h0:n=0)(h:r.all k):(XN n r).all k:=by
 subst h0;exact h
def Vo(P:Program)(h:Hp)(q:Nat)(t t2:TypeId)(s x:D):Rs (D×Hp):=
 match CJ P t,CJ P t2 with
 | some ⟨_,_,.slice e,_⟩,some ti2=>match CJ P e with
   | some ti=>(TD h x).bind λ ys=>match s with
     | .cl es=> .ret ((match ti2.k with | .slice _=>True | .string=>True | _=>False)/\Ka ti.size ys/\0<ti.size/\ti.zero.cells.length=ti.size/\
           get h q=none/\(es=[]∨ys≠[])/\Ka ti.size es/\(es.length+ys.length)*ti.bytes<=140737488355328/\es.length+ys.length<=140737488355328)
         (.ref q 0 (es++ys).length (es++ys).length,(q,.arr e ti.size (es++ys))::h)
     | .cz es=> .ret ((match ti2.k with | .slice _=>True | .string=>True | _=>False)/\Ka ti.size ys/\0<ti.size/\ti.zero.cells.length=ti.size/\
           get h q=none/\ys≠[]/\Ka ti.size es/\(es.length+ys.length)*ti.bytes<=140737488355328/\es.length+ys.length<=140737488355328)
         (.ref q 0 (es++ys).length (es++ys).length,(q,.arr e ti.size (es++ys))::h)
     | .ref id off len N=>XN off (match get h id with
       | some (.arr e' sz es)=> .ret ((match ti2.k with | .slice _=>True | .string=>True | _=>False)/\Ka ti.size ys/\0<ti.size/\ti.zero.cells.length=ti.size/\
           off=0/\N=es.length/\len=es.length/\e'=e/\sz=ti.size/\(es.length+ys.length)*ti.bytes<=140737488355328/\es.length+ys.length<=140737488355328)
         (.ref id 0 (es++ys).length (es++ys).length,Cz h id (.arr e sz (es++ys)))
       | _=> .fail)
     | .nr id i len kk=>match get h id with
       | some (.DF t3 e' sz k2 rows none)=> .ret ((match ti2.k with | .slice _=>True | .string=>True | _=>False)/\Ka ti.size ys/\0<ti.size/\ti.zero.cells.length=ti.size/\
           (e'=e/\sz=ti.size/\kk=k2/\len=(rows.getD i []).length/\i<rows.length/\get h q=none)/\(len+ys.length)*ti.bytes<=140737488355328/\len+ys.length<=140737488355328)
         (.ref q 0 (rows.getD i []++ys).length (rows.getD i []++ys).length,(q,.arr e sz (rows.getD i []++ys))::Cz h id (.DF t3 e' sz (k2+1) rows (some i)))
       | _=> .fail
     | _=> .fail
   | none=> .fail
 | _,_=> .fail
theorem Wr{h:Hp}{d:D}{k k':List (List Pd)->Prop}(hk:∀x,k x->k' x)(hh:LA h d k):LA h d k':=by
 unfold LA at*;split at hh
 . exact hk _ hh
 . exact hk _ hh
 . exact hk _ hh
 . split at hh
   . exact ⟨hh.1,hk _ hh.2⟩
   . exact ⟨hh.1,hk _ hh.2⟩
   . exact hh.elim
 . exact hh.elim
theorem Ak4{h:Hp}{d:D}{q:Prop}{k:List (List Pd)->Prop}(hh:LA h d (λ ys=>q/\k ys)):q/\LA h d k:=by
 unfold LA at*;split at hh
 . exact hh
 . exact hh
 . exact hh
 . split at hh
   . exact ⟨hh.2.1,hh.1,hh.2.2⟩
   . exact ⟨hh.2.1,hh.1,hh.2.2⟩
   . exact hh.elim
 . exact hh.elim
theorem Aa9{P:Program}{h:Hp}{q:Nat}{t t2:TypeId}{s x:D}{k:D->Hp->Prop}(hh:(Vo P h q t t2 s x).all (λ x=>k x.1 x.2)):Aaa P h q t t2 s x k:=by
 unfold Vo at hh;unfold Aaa;split at hh
 case h_2=>exact hh.elim
 rename_i h1 h2;simp only[h1,h2];split at hh
 case h_2=>exact hh.elim
 rename_i h3;simp only[h3];refine Ak4 (Wr (λ ys hy=>?_) (Zk (Ce hh)));split at hy
 . obtain ⟨⟨a1,a2,a3,a4,a5,a6,a7,a8,a9⟩,hk⟩:=hy;exact ⟨a1,a2,a3,a4,a5,a6,a7,a8,a9,hk⟩
 . obtain ⟨⟨a1,a2,a3,a4,a5,a6,a7,a8,a9⟩,hk⟩:=hy;exact ⟨a1,a2,a3,a4,a5,a6,a7,a8,a9,hk⟩
 . have hy:=(O3 hy).2;split at hy
   . rename_i h4;obtain ⟨⟨a1,a2,a3,a4,a5,a6,a7,a8,a9,a10,a11⟩,hk⟩:=hy;simp only[h4];exact ⟨a1,a2,a3,a4,a5,a6,a7,a8,a9,a10,a11,hk⟩
   . exact hy.elim
 . split at hy
   . rename_i h4;obtain ⟨⟨a1,a2,a3,a4,a5,a6,a7⟩,hk⟩:=hy;simp only[h4];exact ⟨a1,a2,a3,a4,a5,a6,a7,hk⟩
   . exact hy.elim
 . exact hy.elim
def FV(h:Hp)(id i n:Nat)(v:D):Rs Hp:=
 match v with
 | .ref q off len N=>match get h q,get h id with
   | some (.arr e2 Sb es),some (.DF t e sz k2 rows hole)=> .ret (off=0/\e2=e/\Sb=sz/\N=es.length/\len=N/\n=rows.length/\(hole=none∨hole=some i))
       (Cz (Cz h id (.DF t e sz (Aup hole k2) (rows.set i es) none)) q (.Fv (I7 (.arr sz (es.length+1)))))
   | _,_=> .fail
 | _=> .fail
theorem VS{h:Hp}{id i n:Nat}{v:D}{k:Hp->Prop}(hh:(FV h id i n v).all k):M6 h id i n v k:=by
 unfold FV at hh;unfold M6;split at hh
 . split at hh
   . rename_i h1 h2;simp only[h1,h2];exact hh
   . exact hh.elim
 . exact hh.elim
def Kl(P:Program)(h:Hp)(t:TypeId)(a v:D):Rs Hp:=
 match CJ P t with
 | some ti=>match v.stored with
   | some cs=>match a with
     | .ptr id off=>match get h id with
       | some (.box bs ty)=> .ret (cs.length=ti.size/\off+cs.length<=bs.length) (Cz h id (.box (bs.take off++cs++bs.drop (off+cs.length)) (Mk ty (bs.take off++cs++bs.drop (off+cs.length)))))
       | _=> .fail
     | .ea id i c N=>(It h cs).bind λ y=>match get y.2 id with
       | some (.arr e sz es)=> .ret (cs.length=ti.size/\N=es.length/\c+y.1.length<=sz) (Cz y.2 id (.arr e sz (es.set i ((es.getD i []).take c++y.1++(es.getD i []).drop (c+y.1.length)))))
       | _=> .fail
     | .M9 id i n=>(FV h id i n v).and (cs.length=ti.size)
     | _=> .fail
   | none=> .fail
 | none=> .fail
theorem Hh:∀{ds:List D} {h:Hp} {q:Prop} {k:List Pd->Hp->Prop},HP h ds (λ x h=>q/\k x h)->q/\HP h ds k
 | [],h,q,k,hh=>hh
 | d::r,h,q,k,hh=>by
   have h1:KW h d (λ x h'=>q/\HP h' r λ xs h''=>k (x::xs) h''):=WD (λ x h' h2=>Hh h2) hh;simp only[HP];unfold KW at h1 ⊢;cases d with
   | p x=>exact h1
   | cl es=>exact h1
   | cz es=>exact h1
   | ref id off len N=>
     simp only at h1 ⊢;split at h1
     . rename_i h2;exact ⟨h1.2.1,h1.1,h1.2.2⟩
     . rename_i h2;exact ⟨h1.2.1,h1.1,h1.2.2⟩
     . exact h1.elim
   | DI id n=>
     simp only at h1 ⊢;split at h1
     . rename_i h2;exact ⟨h1.2.1,h1.1,h1.2.2⟩
     . exact h1.elim
   | _=>exact h1.elim
theorem Aas{P:Program}{h:Hp}{t:TypeId}{a v:D}{k:Hp->Prop}(hh:(Kl P h t a v).all k):TC P h t a v k:=by
 unfold Kl at hh;unfold TC;split at hh
 case h_2=>exact hh.elim
 rename_i h1;simp only[h1];split at hh
 case h_2=>exact hh.elim
 rename_i h2;simp only[h2];split at hh
 . split at hh
   . rename_i h3;simp only[h3];exact ⟨hh.1.1,hh.1.2,hh.2⟩
   . exact hh.elim
 . refine Hh (LH (λ x h' hx=>?_) (Pe (Ce hh)));simp only at hx;split at hx
   . rename_i h3;simp only[h3];exact ⟨hx.1.1,hx.1.2.1,hx.1.2.2,hx.2⟩
   . exact hx.elim
 . exact ⟨(Dx hh).1,VS (Dx hh).2⟩
 . exact hh.elim
def TK.Ark:TK->Bool
 | .slice _=>true
 | _=>false
def D.Alw:D->Bool
 | .cl []=>true
 | _=>false
def X4(ti:TI)(cs:List D):Bool:=ti.k.Ark&&(!cs.isEmpty&&cs.all D.Alw)
def LP(P:Program)(st:St)(q:Nat)(op:Op):Rs (D×Hp):=
 match op with
 | .alloc t=>match CJ P t with
   | some ti=>match ti.zero.stored with
     | some cs=> .ret (get st.hp q=none) (.ptr q 0,(q,.box cs (npT t cs))::st.hp)
     | none=> .fail
   | none=> .fail
 | .box _ x=>match (ev st x).stored with
   | some cs=> .ret (get st.hp q=none) (.ptr q 0,(q,.box cs)::st.hp)
   | none=> .fail
 | .store t a x=>(Kl P st.hp t (ev st a) (ev st x)).bind λ h=> .ret True (.Dv [],h)
 | .makeMap _ none=> .ret (get st.hp q=none) (.mv q,(q,.mp [])::st.hp)
 | .mapUpdate t m i x=>(Kr P st.hp t (ev st m) (ev st i) (ev st x)).bind λ h=> .ret True (.Dv [],h)
 | .buildSlice t n parts=>match CJ P t with
   | some ⟨_,_,.slice e,_⟩=>match CJ P e with
     | some ti=>match GZ (λ i=>some (i*ti.size,ti.size)) (List.replicate (n*ti.size) .bad) (parts.toList.map λ q=>(q.1,ev st q.2)) with
       | some cs=>if X4 ti cs=true then .fail else (It st.hp cs).bind λ y=> .ret (0<ti.size/\n*ti.size<=16777216/\get y.2 q=none) (.ref q 0 n n,(q,.arr e ti.size (chunk ti.size n y.1))::y.2)
       | none=> .fail
     | none=> .fail
   | _=> .fail
 | .makeSlice t l m=>match CJ P t,ev st l,ev st m with
   | some ⟨_,_,.slice e,_⟩,.p (.int _ l),.p (.int _ m)=>match CJ P e with
     | some ti=>if ti.k.Ark=true then .fail else (It [] ti.zero.cells).bind λ y=> .ret (0<ti.size/\get st.hp q=none/\(0<=l/\l<=m/\m*ti.bytes<=140737488355328/\m<=140737488355328)/\ti.zero.cells.length=ti.size)
         (.ref q 0 l.toNat l.toNat,(q,.arr e ti.size (List.replicate l.toNat y.1))::st.hp)
     | none=> .fail
   | _,_,_=> .fail
 | _=> .fail
theorem Iv{P:Program}{st:St}{q:Nat}{op:Op}{k:D->Hp->Prop}(hh:(LP P st q op).all (λ x=>k x.1 x.2)):mOp P st q op k:=by
 unfold LP at hh;unfold mOp;split at hh
 . split at hh
   . rename_i h1;simp only[h1];split at hh
     . rename_i h2;simp only[h2];exact hh
     . exact hh.elim
   . exact hh.elim
 . split at hh
   . rename_i h2;simp only[h2];exact hh
   . exact hh.elim
 . exact Aas (Ca (λ h hx=>hx.2) (Ce hh))
 . exact hh
 . exact Abj (Ca (λ h hx=>hx.2) (Ce hh))
 . split at hh
   . rename_i h1;simp only[h1];split at hh
     . rename_i h2;simp only[h2];split at hh
       . rename_i h3;simp only[h3];split at hh
         . exact hh.elim
         have h4:=LH (k':=λ y h=>_/\_/\get h q=none/\k _ _) (λ y h hy=>⟨hy.1.1,hy.1.2.1,hy.1.2.2,hy.2⟩) (Pe (Ce hh));have h5:=Hh h4;have h6:=Hh h5.2;exact ⟨h5.1,h6.1,h6.2⟩
       . exact hh.elim
     . exact hh.elim
   . exact hh.elim
 . split at hh
   . rename_i h1 h2 h3;simp only[h1,h2,h3];split at hh
     . rename_i h4;simp only[h4];split at hh
       . exact hh.elim
       have h5:=LH (k':=λ y h=>_/\_/\_/\_/\k _ _) (λ y h hy=>⟨hy.1.1,hy.1.2.1,hy.1.2.2.1,hy.1.2.2.2,hy.2⟩) (Pe (Ce hh));have h6:=Hh h5;have h7:=Hh h6.2;have h8:=Hh h7.2;have h9:=Hh h8.2;exact ⟨h6.1,h7.1,h8.1,h9.1,h9.2⟩
     . exact hh.elim
   . exact hh.elim
 . exact hh.elim
def Vk(h:Hp)(d:D):Rs (D×Hp):=
 match d with
 | .ref id off len N=>match get h id with
   | some (.arr _ _ es)=> .ret (N=es.length) (.p (.sl ((es.drop off).take len)),froze h id)
   | some (.Nw _ es)=> .ret (N=es.length) (.p (.sl ((es.drop off).take len)),h)
   | _=> .fail
 | .DI id n=>match get h id with
   | some (.DF _ _ sz kk rows none)=> .ret (n=rows.length) (.p (.sl (rows.map λ r=>[.sl r])),Cz h id (.Fv (I7 (.DF sz rows.length kk))))
   | _=> .fail
 | .cl es=> .ret True (.p (.sl es),h)
 | d=> .ret True (d,h)
theorem EC{h:Hp}{d:D}{k:D->Hp->Prop}(hh:(Vk h d).all (λ x=>k x.1 x.2)):bor h d k:=by
 cases d with
 | ref id off len N=>
   simp only[Vk] at hh;simp only[bor];split at hh
   . exact hh
   . exact hh
   . exact hh.elim
 | DI id n=>
   simp only[Vk] at hh;simp only[bor];split at hh
   . exact hh
   . exact hh.elim
 | cl es=>exact hh.2
 | _=>exact hh.2
mutual
def Db (h:Hp) (d:D):Rs (D×Hp):=
  match d with
  | .agg cs=>(GM h cs).bind λ x=> .ret True (.agg x.1,x.2)
  | .Dv cs=>(GM h cs).bind λ x=> .ret True (.Dv x.1,x.2)
  | d=>Vk h d
def GM:Hp->List D->Rs (List D×Hp)
  | h,[]=> .ret True ([],h)
  | h,d::r=>(Db h d).bind λ x=>(GM x.2 r).bind λ y=> .ret True (x.1::y.1,y.2)
end
mutual
theorem R3:∀{d:D} {h:Hp} {k:D->Hp->Prop},(Db h d).all (λ x=>k x.1 x.2)->Fu h d k
  | .agg cs,h,k,hh=>by simp only[Db] at hh;simp only[Fu];exact Ma (Ca (λ x hx=>hx.2) (Ce hh))
  | .Dv cs,h,k,hh=>by simp only[Db] at hh;simp only[Fu];exact Ma (Ca (λ x hx=>hx.2) (Ce hh))
  | .p _,h,k,hh=>by simp only[Db] at hh;simp only[Fu];exact EC hh
  | .cl _,h,k,hh=>by simp only[Db] at hh;simp only[Fu];exact EC hh
  | .cz _,h,k,hh=>by simp only[Db] at hh;simp only[Fu];exact EC hh
  | .ref _ _ _ _,h,k,hh=>by simp only[Db] at hh;simp only[Fu];exact EC hh
  | .ptr _ _,h,k,hh=>by simp only[Db] at hh;simp only[Fu];exact EC hh
  | .pe _,h,k,hh=>by simp only[Db] at hh;simp only[Fu];exact EC hh
  | .ea _ _ _ _,h,k,hh=>by simp only[Db] at hh;simp only[Fu];exact EC hh
  | .fn _ _,h,k,hh=>by simp only[Db] at hh;simp only[Fu];exact EC hh
  | .np,h,k,hh=>by simp only[Db] at hh;simp only[Fu];exact EC hh
  | .mv _,h,k,hh=>by simp only[Db] at hh;simp only[Fu];exact EC hh
  | .DI _ _,h,k,hh=>by simp only[Db] at hh;simp only[Fu];exact EC hh
  | .M9 _ _ _,h,k,hh=>by simp only[Db] at hh;simp only[Fu];exact EC hh
  | .nr _ _ _ _,h,k,hh=>by simp only[Db] at hh;simp only[Fu];exact EC hh
  | .SW,h,k,hh=>by simp only[Db] at hh;simp only[Fu];exact EC hh
  | .bad,h,k,hh=>by simp only[Db] at hh;simp only[Fu];exact EC hh
theorem Ma:∀{ds:List D} {h:Hp} {k:List D->Hp->Prop},(GM h ds).all (λ x=>k x.1 x.2)->QZ h ds k
  | [],h,k,hh=>by simp only[GM] at hh;simp only[QZ];exact hh.2
  | d::r,h,k,hh=>by
    simp only[GM] at hh;simp only[QZ];exact R3 (Ca (λ x h1=>Ma (Ca (λ y h2=>h2.2) (Ce h1))) (Ce hh))
end
def Abm(P:Program)(h:Hp)(t:TypeId)(x:D):Rs D:=
 match CJ P t with
 | some ti=>match ti.k,x with
   | .string,.p (.str l)=> .ret True (.p (.int .i64 l.length))
   | .slice _,.p (.sl es)=> .ret True (.p (.int .i64 es.length))
   | .slice _,.cl es=> .ret True (.p (.int .i64 es.length))
   | .slice _,.ref id _ len N=> .ret (Acm h id N) (.p (.int .i64 len))
   | .slice _,.DI _ n=> .ret True (.p (.int .i64 n))
   | .slice _,.nr _ _ len _=> .ret True (.p (.int .i64 len))
   | .array n _,_=> .ret True (.p (.int .i64 n))
   | _,_=> .fail
 | none=> .fail
theorem ZV{P:Program}{h:Hp}{t:TypeId}{x:D}{k:D->Prop}(hh:(Abm P h t x).all k):Alr P h t x k:=by
 unfold Abm at hh;unfold Alr;split at hh
 case h_2=>exact hh.elim
 try simp only[*]
 split at hh
 . first | exact hh.2 | (simp only[*];exact hh.2)
 . first | exact hh.2 | (simp only[*];exact hh.2)
 . first | exact hh.2 | (simp only[*];exact hh.2)
 . first | exact hh | (simp only[*];exact hh)
 . first | exact hh.2 | (simp only[*];exact hh.2)
 . first | exact hh.2 | (simp only[*];exact hh.2)
 . first | exact hh.2 | (simp only[*];exact hh.2)
 . exact hh.elim
def NH(P:Program)(h:Hp)(t:TypeId)(s x:D):Rs (D×Hp):=
 match CJ P t with
 | some ⟨_,_,.slice e,_⟩=>match CJ P e with
   | some ti=>(TD h x).bind λ ys=>match s with
     | .ref id off len N=>match get h id with
       | some (.arr e' sz es)=> .ret (Ka ti.size ys/\0<ti.size/\N=es.length/\off+len<=N/\sz=ti.size)
           (.p (.int .i64 ((min len ys.length:Nat):Int)),Cz h id (.arr e' sz (es.take off++ys.take len++es.drop (off+min len ys.length))))
       | _=> .fail
     | _=> .fail
   | none=> .fail
 | _=> .fail
theorem Xv{P:Program}{h:Hp}{t:TypeId}{s x:D}{k:D->Hp->Prop}(hh:(NH P h t s x).all (λ x=>k x.1 x.2)):w9 P h t s x k:=by
 unfold NH at hh;unfold w9;split at hh
 case h_2=>exact hh.elim
 rename_i h1;rw[h1];simp only;split at hh
 case h_2=>exact hh.elim
 rename_i ti h2;rw[h2];simp only;refine Wr (λ ys hy=>?_) (Zk (Ce hh));split at hy
 case h_2=>exact hy.elim
 split at hy
 case h_2=>exact hy.elim
 obtain ⟨⟨g1,g2,g3,g4,g5⟩,g6⟩:=hy;rename_i h3;exact ⟨λ y hy=>g1 y hy,g2,by simp only[h3];exact ⟨g3,g4,g5,g6⟩⟩
def Fo(P:Program)(st:St)(q:Nat)(b:Builtin)(ts:Array TypeId)(args:List D):Rs (D×Hp):=
 match b,args with
 | .len,[x]=>match ts[0]? with
   | some t=>(Abm P st.hp t x).bind λ d=> .ret True (d,st.hp)
   | none=> .fail
 | .append,[s,x]=>match ts[0]?,ts[1]? with
   | some t,some t2=>Vo P st.hp q t t2 s x
   | _,_=> .fail
 | .copy,[s,x]=>match ts[0]?,ts[1]? with
   | some t,some _=>NH P st.hp t s x
   | _,_=> .fail
 | .min,[.p (.int k1 x),.p (.int k2 y)]=> .ret (k1=k2) (.p (.int k1 (if y<x then y else x)),st.hp)
 | .max,[.p (.int k1 x),.p (.int k2 y)]=> .ret (k1=k2) (.p (.int k1 (if x<y then y else x)),st.hp)
 | _,_=> .fail
theorem L8{P:Program}{st:St}{q:Nat}{b:Builtin}{ts:Array TypeId}{args:List D}{k:D->Hp->Prop}(hh:(Fo P st q b ts args).all (λ x=>k x.1 x.2)):
   NM P st q b ts args k:=by
 unfold Fo at hh;unfold NM;split at hh
 . split at hh
   . first | exact ZV (Ca (λ x hx=>hx.2) (Ce hh)) | (simp only[*];exact ZV (Ca (λ x hx=>hx.2) (Ce hh)))
   . exact hh.elim
 . split at hh
   . first | exact Aa9 hh | (simp only[*];exact Aa9 hh)
   . exact hh.elim
 . split at hh
   . first | exact Xv hh | (simp only[*];exact Xv hh)
   . exact hh.elim
 . exact hh
 . exact hh
 . exact hh.elim
end Go.Am
namespace Go.Am
open Go
mutual
def D.Ek (ρ:Nat->Option Nat):D->D
  | .p x=> .p x
  | .agg cs=> .agg (Iq ρ cs)
  | .Dv cs=> .Dv (Iq ρ cs)
  | .cl es=> .cl es
  | .cz es=> .cz es
  | .ref id off len N=>match ρ id with | some j=> .ref j off len N | none=> .bad
  | .ptr id off=>match ρ id with | some j=> .ptr j off | none=> .bad
  | .pe cs=> .pe cs
  | .ea id i c N=>match ρ id with | some j=> .ea j i c N | none=> .bad
  | .fn f cap=> .fn f (Iq ρ cap)
  | .np=> .np
  | .mv id=>match ρ id with | some j=> .mv j | none=> .bad
  | .DI id n=>match ρ id with | some j=> .DI j n | none=> .bad
  | .M9 id i n=>match ρ id with | some j=> .M9 j i n | none=> .bad
  | .nr id i len k=>match ρ id with | some j=> .nr j i len k | none=> .bad
  | .SW=> .SW
  | .bad=> .bad
def Iq (ρ:Nat->Option Nat):List D->List D
  | []=>[]
  | d::r=>D.Ek ρ d::Iq ρ r
end
def AO.Ek(ρ:Nat->Option Nat):AO->AO
 | .box cs t=> .box (Iq ρ cs) t
 | o=>o
mutual
def D.ids:D->List Nat
  | .ref id _ _ _ | .ptr id _ | .ea id _ _ _ | .mv id | .DI id _ | .M9 id _ _ | .nr id _ _ _=>[id]
  | .agg cs | .Dv cs | .fn _ cs=>DB cs
  | _=>[]
def DB:List D->List Nat
  | []=>[]
  | d::r=>D.ids d++DB r
end
def FH(T:List Nat):List Nat->List Nat
 | []=>T
 | i::r=>if i∈T then FH T r else FH (T++[i]) r
def AO.ids:AO->List Nat
 | .box cs _=>DB cs
 | _=>[]
def I2(h:Hp):List Nat->List Nat
 | []=>[]
 | i::r=>(match get h i with | some o=>o.ids | none=>[])++I2 h r
def ghost(h:Hp)(id:Nat):List Nat:=match get h id with
 | some (.Gi _ _)=>[id]
 | _=>[]
def RR(h:Hp):List Nat:=ghost h base++(ghost h (base+1)++(ghost h (base+2)++ghost h (base+3)))
def DY(h:Hp)(ids:List Nat):List Nat:=
 let t0:=FH [] ids
 let t1:=FH t0 (I2 h t0)
 FH (FH t1 (I2 h t1)) (RR h)
def idx:List Nat->Nat->Nat->Option Nat
 | [],_,_=>none
 | x::r,k,id=>if x=id then some k else idx r (k+1) id
def sub(h:Hp)(ρ:Nat->Option Nat):Nat->List Nat->Hp
 | _,[]=>[]
 | k,id::r=>match get h id with
   | some o=>(k,o.Ek ρ)::sub h ρ (k+1) r
   | none=>sub h ρ (k+1) r
def back(T:List Nat)(q j:Nat):Option Nat:=if base<=j then T[j - base]? else some (10000*(j+1)+q)
def merge(T:List Nat)(q:Nat)(h:Hp):Hp->Hp
 | []=>h
 | (j,o)::r=>match back T q j with
   | some id=>Cz (merge T q h r) id (o.Ek (back T q))
   | none=>merge T q h r
def fresh(q:Nat)(h:Hp):Hp->Prop
 | []=>True
 | (j,_)::r=>(base<=j∨get h (10000*(j+1)+q)=none)/\fresh q h r
def Enters(P:Program)(f:FuncId):Prop:=∀args w,(callFunc f args).run P w= .ok (.enter f args) w
def Apw(P:Program)(f:FuncId)(vs:Array Value)(w:World)(Azd:Ending->World->Prop):Prop:=
 ((callFunc f vs).run P w= .ok (.enter f vs) w/\Calls P f vs w Azd)∨∃v w',(callFunc f vs).run P w= .ok (.value v) w'/\Azd (.returned v) w'
theorem Apw.mono{P:Program}{f:FuncId}{vs:Array Value}{w:World}{Q Q':Ending->World->Prop}(h:Apw P f vs w Q)(hq:∀e w',Q e w'->Q' e w'):Apw P f vs w Q':=by
 rcases h with ⟨h1,h2⟩ | ⟨v,w',h1,h2⟩
 . exact .inl ⟨h1,h2.mono hq⟩
 . exact .inr ⟨v,w',h1,hq _ _ h2⟩
def B2(P:Program)(f:FuncId)(args:List D)(h:Hp)(R:Hp->D->Prop):Prop:=
 ∀(vs:Array Value) (w:World) (F:Nat->Prop) (M:Nat->Mb),HR F w M h->(∀b,F b->b<w.heap.size)->(∀id,sg h id≠none->base<=id)->KA F w M (sg h) args vs.toList->
   Apw P f vs w λ e w'=>∃v h' r F' M',e= .returned v/\R h' r/\HR F' w' M' h'/\DR F' w' M' (sg h') r v/\Aq1 ⟨w,F,E8 M h,M,sg h⟩ w' F' M' h'
@[congr] theorem ACalls_congr{P:Program}{f:FuncId}{args Att:List D}{h h':Hp}{R:Hp->D->Prop}(e1:args=Att)(e2:h=h'):B2 P f args h R=B2 P f Att h' R:=by rw[e1,e2]
theorem B2.mono{P:Program}{f:FuncId}{args:List D}{h:Hp}{R R':Hp->D->Prop}(hc:B2 P f args h R)(hR:∀h' r,R h' r->R' h' r):B2 P f args h R':=
 λ vs w F M h1 h2 Ij h3=>(hc vs w F M h1 h2 Ij h3).mono λ _ _ ⟨v,h',r,F',M',h4,h5,h6⟩=>⟨v,h',r,F',M',h4,hR _ _ h5,h6⟩
theorem Vw{P:Program}{f:FuncId}{e:Array Value->Sem Value}{args:List D}{h:Hp}{R:Hp->D->Prop}(DE:∀args w,(callFunc f args).run P w=((e args).run P w).andThen λ v w'=> .ok (.value v) w')
   (hv:∀(vs:Array Value) w F M,KA F w M (sg h) args vs.toList->∃v r,(e vs).run P w= .ok v w/\DR F w M (sg h) r v/\R h r):B2 P f args h R:=by
 intro vs w F M hHR hFl hsb hd;obtain ⟨v,r,h1,h2,h3⟩:=hv vs w F M hd;refine .inr ⟨v,w,?_,v,h,r,F,M,rfl,h3,hHR,h2,⟨rfl,rfl,rfl,Ai _,λ _ _ _=>rfl,λ _ h=>h,λ _ h=> .inl h,hFl,λ _ h=> .inl h,C1.refl _ _,hsb⟩⟩;rw[DE,h1];rfl
def HV(P:Program)(h:Hp)(f:FuncId)(ds:List D)(q:Nat)(k:D->Hp->Prop):Prop:=
 let T:=DY h (DB ds)
 T.Nodup/\(T.all λ id=>(get h id).isSome)=true/\
 B2 P f (Iq (idx T base) ds) (sub h (idx T base) base T) λ h' r=>fresh q h h'/\k (r.Ek (back T q)) (merge T q h h')
def Ky(P:Program)(st:St)(o:Oper):Rs (D×Hp):=
 match o.op with
 | .call c=>match c.callee with
   | .builtin b=>Fo P st (o.dst.getD 0) b c.argTypes (c.args.toList.map (ev st))
   | _=> .fail
 | .alloc _ | .box _ _ | .store _ _ _ | .buildSlice _ _ _ | .makeSlice _ _ _ | .makeMap _ _ | .mapUpdate _ _ _ _=>LP P st (o.dst.getD 0) o.op
 | op=>(Kj P st op).bind λ d=> .ret True (d,st.hp)
def Hs(st:St)(f:Operand)(args:List Operand):Rs (FuncId×List D×Hp):=
 match ev st f with
 | .fn g cap=>(GM st.hp (args.map (ev st)++cap)).bind λ x=> .ret True (g,x.1,x.2)
 | _=> .fail
def Dl(o:Op):Option (Operand×List Operand):=
 match o with
 | .call c=>match c.callee with
   | .value f=>some (f,c.args.toList)
   | _=>none
 | _=>none
def Good(c:Ctx)(K:St->Prop):Act->World->Prop:=λ a w=>∃st F M,K st/\Rel c st a w F M
def OV(P:Program)(o:Oper)(K:St->Prop)(st:St):Prop:=
 ∀c a w F M (Q:Exit->Act->World->Prop),Rel c st a w F M->o.wp P a w (Good c K) Q
def L6(S:Prop)(P:Program)(h:Hp)(f:FuncId)(ds:List D)(q:Nat)(k:D->Hp->Prop):Prop:=
 let T:=DY h (DB ds)
 T.Nodup/\(T.all λ id=>(get h id).isSome)=true/\
 (B2 P f (Iq (idx T base) ds) (sub h (idx T base) base T) (λ h' r=>fresh q h h'/\k (r.Ek (back T q)) (merge T q h h'))∨S)
theorem R0{S:Prop}{P:Program}{h:Hp}{f:FuncId}{ds:List D}{q:Nat}{k:D->Hp->Prop}(hh:L6 S P h f ds q k):HV P h f ds q k∨S:=by
 obtain ⟨h1,h2,h3⟩:=hh;rcases h3 with h3 | h3
 . exact .inl ⟨h1,h2,h3⟩
 . exact .inr h3
theorem XA{S:Prop}{P:Program}{h:Hp}{f:FuncId}{ds:List D}{q:Nat}{k:D->Hp->Prop}(hh:HV P h f ds q k):L6 S P h f ds q k:=⟨hh.1,hh.2.1,.inl hh.2.2⟩
theorem L5{X:Prop}{P:Program}{h:Hp}{f:FuncId}{ds:List D}{q:Nat}{k:D->Hp->Prop}:L6 (false=true/\X) P h f ds q k=HV P h f ds q k:=
 propext ⟨λ hh=>(R0 hh).elim id λ h=>(AJ h.1).elim,XA⟩
def Rd(P:Program)(s:Bool)(o:Oper)(K:St->Prop)(st:St):Prop:=
 match Dl o.op with
 | some (f,args)=>(Hs st f args).JY (s=true/\OV P o K st) λ x=>L6 (s=true/\OV P o K st) P x.2.2 x.1 x.2.1 (o.dst.getD 0) λ d h'=>K (({st with hp:=h'}:St).put o.dst d)
 | none=>(Ky P st o).JY (s=true/\OV P o K st) λ x=>K (({st with hp:=x.2}:St).put o.dst x.1)
def F6(st:St)(ops:List Oper)(g:Option (Nat×Bool))(yes no:Prop):Prop:=
 match g with
 | none=>yes
 | some (j,want)=>match ((ops[j]?).bind (·.dst)).bind (get st.env) with
   | some (.p (.bool b))=>XD (b==want) yes no
   | some (.Dv [])=>no
   | _=>False
def VF(P:Program)(s:Bool)(ops:List Oper):List Oper->(St->Prop)->St->Prop
 | [],K,st=>K st
 | o::rest,K,st=>F6 st ops o.guard (Rd P s o (VF P s ops rest K) st) (VF P s ops rest K (st.put o.dst (.Dv [])))
def thn(K:St->Prop)(Q:Exit->St->Prop):Exit->St->Prop
 | .normal,st=>K st
 | e,st=>Q e st
def DQ(id:Nat)(Q:Exit->St->Prop):Exit->St->Prop
 | .exit PW,st=>if PW=id then Q .normal st else Q (.exit PW) st
 | e,st=>Q e st
def Wk(st st1:St):Prop:=∀c a w F M,Rel c st a w F M->∃F' M',Rel c st1 a w F' M'
def Y7(body:(Exit->St->Prop)->St->Prop)(Q:Exit->St->Prop):Nat->St->Prop
 | 0,_=>False
 | n+1,st=>∃st1,Wk st st1/\body (thn (Y7 body Q n) Q) st1
def QC(c:Ctx)(Q:Exit->St->Prop):Exit->Act->World->Prop:=λ e a w=>∃st F M,Q e st/\Rel c st a w F M
def Aw6(P:Program)(x:Code)(Q:Exit->St->Prop)(st:St):Prop:=
 ∀c a w F M,Rel c st a w F M->(Code.scope x).wp P (QC c Q) a w
def Azk(P:Program)(id:Nat)(ops:Array Oper)(Q:Exit->St->Prop)(st:St):Prop:=
 ∀c a w F M,Rel c st a w F M->(Code.region id ops true).wp P (QC c Q) a w
def wA(P:Program):Code->(Exit->St->Prop)->St->Prop
 | .skip,Q,st=>Q .normal st
 | .label _,Q,st=>Q .normal st
 | .ret,Q,st=>Q .ret st
 | .exit id,Q,st=>Q (.exit id) st
 | .goto l,Q,st=>Q (.goto l) st
 | .seq x y,Q,st=>wA P x (thn (wA P y Q) Q) st
 | .cond c x y,Q,st=>match ev st c with
   | .p (.bool b)=>XD b (wA P x Q st) (wA P y Q st)
   | _=>False
 | .block id x,Q,st=>wA P x (DQ id Q) st
 | .loop x,Q,st=>∃n,Y7 (wA P x) Q n st
 | .scope x,Q,st=>Aw6 P x Q st
 | .region id ops draw,Q,st=>(draw=false/\VF P true ops.toList ops.toList (Q .normal) st)∨(draw=true/\Azk P id ops Q st)
 | _,_,_=>False
end Go.Am
namespace Go.Am
open Go
section
variable {P:Program} {c:Ctx} {st:St} {a:Act} {w:World} {F:Nat->Prop} {M:Nat->Mb}
theorem JF(ρ:Nat->Option Nat):∀(cs:List D) (i:Nat),(Iq ρ cs)[i]?=(cs[i]?).map (D.Ek ρ)
 | [],i=>by simp[Iq]
 | d::r,0=>by simp[Iq]
 | d::r,i+1=>by simp[Iq,JF ρ r i]
theorem Hf(ρ:Nat->Option Nat):∀cs:List D,(Iq ρ cs).length=cs.length
 | []=>rfl
 | d::r=>by simp[Iq,Hf ρ r]
theorem DR.Ek{ρ:Nat->Option Nat}{M':Nat->Mb}{s s':Nat->Option Sg}{d:D}{v:Value}(h:DR F w M s d v)
   (hρ:∀id j,ρ id=some j->s id≠none->M' j=M id/\s' j=s id):DR F w M' s' (d.Ek ρ) v:=by
 induction h with
 | p h=>simp only[D.Ek];exact .p h
 | agg cs vs hl _ ih=>
   simp only[D.Ek];refine .agg _ vs (by rw[Hf];exact hl) λ i e he=>?_;rw[JF] at he;cases hc:cs[i]? with
   | none=>rw[hc] at he;cases he
   | some q=>rw[hc] at he;cases he;exact ih i q hc
 | Dv cs vs hl _ ih=>
   simp only[D.Ek];refine .Dv _ vs (by rw[Hf];exact hl) λ i e he=>?_;rw[JF] at he;cases hc:cs[i]? with
   | none=>rw[hc] at he;cases he
   | some q=>rw[hc] at he;cases he;exact ih i q hc
 | cl es a h hn=>simp only[D.Ek];exact .cl es a h hn
 | cz es a h=>simp only[D.Ek];exact .cz es a h
 | ref id off len N sz n v hs hN hv h2=>
   simp only[D.Ek];cases hj:ρ id with
   | none=>exact .bad _
   | some j=>
     obtain ⟨h3,h4⟩:=hρ id j hj (by rw[hs];simp);exact .ref j off len N sz n v (by rw[h4,hs]) hN hv (λ e=>by rw[h3];exact h2 e)
 | ptr id off hs=>
   simp only[D.Ek];cases hj:ρ id with
   | none=>exact .bad _
   | some j=>
     obtain ⟨h3,h4⟩:=hρ id j hj (by rw[hs];simp);have:=DR.ptr (F:=F) (w:=w) (M:=M') (s:=s') j off (by rw[h4,hs]);rwa[h3] at this
 | pe cs b off row t fr hF hh hi hp=>simp only[D.Ek];exact .pe cs b off row t fr hF hh hi hp
 | ea id i q N sz n v hs hN hv h2=>
   simp only[D.Ek];cases hj:ρ id with
   | none=>exact .bad _
   | some j=>
     obtain ⟨h3,h4⟩:=hρ id j hj (by rw[hs];simp);exact .ea j i q N sz n v (by rw[h4,hs]) hN hv (λ e=>by rw[h3];exact h2 e)
 | fn f cap vs hl _ ih=>
   simp only[D.Ek];refine .fn f _ vs (by rw[Hf];exact hl) λ i e he=>?_;rw[JF] at he;cases hc:cap[i]? with
   | none=>rw[hc] at he;cases he
   | some q=>rw[hc] at he;cases he;exact ih i q hc
 | np=>simp only[D.Ek];exact .np
 | mv id h1=>
   simp only[D.Ek];cases hj:ρ id with
   | none=>exact .bad _
   | some j=>
     obtain ⟨h3,h4⟩:=hρ id j hj (by rw[h1];simp);rw[<-h3];exact .mv j (by rw[h4,h1])
 | DI id n sz m k v h1 hN hv h2=>
   simp only[D.Ek];cases hj:ρ id with
   | none=>exact .bad _
   | some j=>
     obtain ⟨h3,h4⟩:=hρ id j hj (by rw[h1];simp);exact .DI j n sz m k v (by rw[h4,h1]) hN hv (λ e=>by rw[h3];exact h2 e)
 | M9 id i n sz m k b h1 hN hi h2=>
   simp only[D.Ek];cases hj:ρ id with
   | none=>exact .bad _
   | some j=>
     obtain ⟨h3,h4⟩:=hρ id j hj (by rw[h1];simp);exact .M9 j i n sz m k b (by rw[h4,h1]) hN hi (λ e=>by rw[h3];exact h2 e)
 | nr id i len q sz m k v h1 hN hv h2=>
   simp only[D.Ek];cases hj:ρ id with
   | none=>exact .bad _
   | some j=>
     obtain ⟨h3,h4⟩:=hρ id j hj (by rw[h1];simp);exact .nr j i len q sz m k v (by rw[h4,h1]) hN hv (λ e=>by rw[h3];exact h2 e)
 | SW v h=>simp only[D.Ek];exact .SW v h
 | bad v=>simp only[D.Ek];exact .bad v
theorem KA.Ek{ρ:Nat->Option Nat}{M':Nat->Mb}{s s':Nat->Option Sg}{ds:List D}{vs:List Value}(h:KA F w M s ds vs)
   (hρ:∀id j,ρ id=some j->s id≠none->M' j=M id/\s' j=s id):KA F w M' s' (Iq ρ ds) vs:=
 ⟨by rw[Hf];exact h.1,λ i d hd=>by
   rw[JF] at hd;cases hc:ds[i]? with
   | none=>rw[hc] at hd;cases hd
   | some q=>rw[hc] at hd;cases hd;exact (h.2 i q hc).Ek hρ⟩
theorem R8(ρ:Nat->Option Nat)(o:AO):(o.Ek ρ).sg=o.sg:=by cases o<;>rfl
theorem Eo(ρ:Nat->Option Nat)(o:AO)(m:Mb)(b:Nat):(o.Ek ρ).Gz m b↔o.Gz m b:=by cases o<;>exact Iff.rfl
theorem Auj(ρ:Nat->Option Nat)(d:D):(d.Ek ρ).Z5=d.Z5:=by
 cases d with
 | ref id off len N=>simp only[D.Ek];cases ρ id<;>rfl
 | ptr id off=>simp only[D.Ek];cases ρ id<;>rfl
 | ea id i c N=>simp only[D.Ek];cases ρ id<;>rfl
 | mv id=>simp only[D.Ek];cases ρ id<;>rfl
 | DI id n=>simp only[D.Ek];cases ρ id<;>rfl
 | M9 id i n=>simp only[D.Ek];cases ρ id<;>rfl
 | nr id i n k=>simp only[D.Ek];cases ρ id<;>rfl
 | _=>rfl
theorem Ade(ρ:Nat->Option Nat):∀cs:List D,(Iq ρ cs).any D.Z5=cs.any D.Z5
 | []=>rfl
 | d::r=>by simp only[Iq,List.any_cons,Auj,Ade ρ r]
theorem Auk{ρ:Nat->Option Nat}{d:D}(h:d.Ek ρ= .cl []):d= .cl []:=by
 cases d with
 | ref id off len N=>simp only[D.Ek] at h;cases hr:ρ id<;>rw[hr] at h<;>cases h
 | ptr id off=>simp only[D.Ek] at h;cases hr:ρ id<;>rw[hr] at h<;>cases h
 | ea id i c N=>simp only[D.Ek] at h;cases hr:ρ id<;>rw[hr] at h<;>cases h
 | mv id=>simp only[D.Ek] at h;cases hr:ρ id<;>rw[hr] at h<;>cases h
 | DI id n=>simp only[D.Ek] at h;cases hr:ρ id<;>rw[hr] at h<;>cases h
 | M9 id i n=>simp only[D.Ek] at h;cases hr:ρ id<;>rw[hr] at h<;>cases h
 | nr id i n k=>simp only[D.Ek] at h;cases hr:ρ id<;>rw[hr] at h<;>cases h
 | cl es=>simpa only[D.Ek] using h
 | _=>simp[D.Ek] at h
theorem Wg.Ek{ρ:Nat->Option Nat}{M':Nat->Mb}{s s':Nat->Option Sg}{m:Mb}{o:AO}(h:Wg F w M s m o)
   (hρ:∀id j,ρ id=some j->s id≠none->M' j=M id/\s' j=s id):Wg F w M' s' m (o.Ek ρ):=by
 cases o with
 | box cs ty=>
   obtain ⟨h1,row,t,h2,h3,h4⟩:=h;refine ⟨h1,row,t,h2,by rw[Hf];exact h3,λ j d hd=>?_,λ h5 h6 j hj=>?_⟩
   . rw[JF] at hd;cases hc:cs[j]? with
     | none=>rw[hc] at hd;cases hd
     | some q=>rw[hc] at hd;cases hd;exact ⟨(h4.1 j q hc).1.Ek hρ,(h4.1 j q hc).2⟩
   . refine h4.2 h5 (by rwa[Ade] at h6) j ?_;rw[JF] at hj;cases hc:cs[j]? with
     | none=>rw[hc] at hj;cases hj
     | some q=>
       rw[hc] at hj;simp only[Bk,Al] at hj;rw[Auk hj]
 | arr t sz es=>exact h
 | Nw sz es=>exact h
 | iter l pos=>exact h
 | Gi g cs=>exact h
 | Fv s=>exact h
 | mp l=>exact h
 | DF t e sz k rows hole=>exact h
theorem JP:∀(T:List Nat) (k id j:Nat),idx T k id=some j->∃i,j=k+i/\T[i]?=some id
 | [],k,id,j,h=>by simp[idx] at h
 | x::r,k,id,j,h=>by
   simp only[idx] at h;split at h
   . rename_i e;cases h;exact ⟨0,by omega,by simp[e]⟩
   . obtain ⟨i,h1,h2⟩:=JP r (k+1) id j h;exact ⟨i+1,by omega,by simpa using h2⟩
theorem Ae1(h:Hp)(ρ:Nat->Option Nat):∀(T:List Nat) (k j:Nat),get (sub h ρ k T) j=if k<=j then ((T[j - k]?).bind (get h)).map (AO.Ek ρ) else none
 | [],k,j=>by simp[sub,get]
 | id::r,k,j=>by
   have ih:=Ae1 h ρ r (k+1) j;by_cases e:k=j
   . subst e;simp only[sub,Ai,AP,Nat.sub_self,AK,Aa];cases ho:get h id with
     | some o=>simp[Cw]
     | none=>rw[ih,if_neg (by omega)];simp
   . have:get (sub h ρ k (id::r)) j=get (sub h ρ (k+1) r) j:=by
       simp only[sub];cases ho:get h id with
       | some o=>rw[Cw,if_neg e]
       | none=>rfl
     rw[this,ih];by_cases h2:k+1<=j
     . rw[if_pos h2,if_pos (by omega),show j - k=(j - (k+1))+1 from by omega,List.getElem?_cons_succ]
     . rw[if_neg h2,if_neg (by omega)]
theorem WJ{T:List Nat}(h:T.Nodup){i j x:Nat}(hi:T[i]?=some x)(hj:T[j]?=some x):i=j:=by
 have h1:=(Ao.1 hi);have h2:=(Ao.1 hj);exact (List.getElem_inj (h₀:=h1.1) (h₁:=h2.1) h).1 (h1.2.trans h2.2.symm)
theorem UI{q:Nat}{h:Hp}:∀{h':Hp},fresh q h h'->∀j o,get h' j=some o->base<=j∨get h (10000*(j+1)+q)=none
 | [],_,j,o,hg=>by simp[get] at hg
 | (k,x)::r,hf,j,o,hg=>by
   rw[Cw] at hg;split at hg
   . rename_i e;subst e;exact hf.1
   . exact UI hf.2 j o hg
theorem get_merge{T:List Nat}{q:Nat}{h:Hp}:∀{h':Hp} (id:Nat),
   (∃j o,get h' j=some o/\back T q j=some id/\get (merge T q h h') id=some (o.Ek (back T q)))∨
   ((∀j o,get h' j=some o->back T q j≠some id)/\get (merge T q h h') id=get h id)∨¬(∀i j,back T q i=some id->back T q j=some id->(∃o,get h' i=some o)->(∃o,get h' j=some o)->i=j)
 | [],id=> .inr (.inl ⟨λ j o hg=>by simp[get] at hg,rfl⟩)
 | (k,x)::r,id=>by
   by_cases Po:∀i j,back T q i=some id->back T q j=some id->(∃o,get ((k,x)::r) i=some o)->(∃o,get ((k,x)::r) j=some o)->i=j
   case neg=>exact .inr (.inr Po)
   by_cases hb:back T q k=some id
   . refine .inl ⟨k,x,by simp[Cw],hb,?_⟩;simp only[merge,hb,CU,AP]
   . have b9:get (merge T q h ((k,x)::r)) id=get (merge T q h r) id:=by
       simp only[merge];cases hk:back T q k with
       | none=>rfl
       | some PW=>rw[CU,if_neg (λ e=>hb (by rw[hk,e]))]
     have N9:∀i,(∃o,get r i=some o)->back T q i=some id->∃o,get ((k,x)::r) i=some o:=λ i ⟨o,ho⟩ hbi=>by
       rw[Cw];by_cases e:k=i
       . subst e;exact (hb hbi).elim
       . rw[if_neg e];exact ⟨o,ho⟩
     rcases get_merge (T:=T) (q:=q) (h:=h) (h':=r) id with ⟨j,o,h1,h2,h3⟩ | ⟨h1,h2⟩ | h1
     . refine .inl ⟨j,o,?_,h2,by rw[b9];exact h3⟩;rw[Cw,if_neg (λ e=>by subst e;exact hb h2)];exact h1
     . refine .inr (.inl ⟨λ j o hg=>?_,by rw[b9];exact h2⟩);rw[Cw] at hg;split at hg
       . rename_i e;subst e;exact hb
       . exact h1 j o hg
     . exact (h1 λ i j hi hj hoi hoj=>Po i j hi hj (N9 i hoi hi) (N9 j hoj hj)).elim
theorem SO(hr:Rel c st a w F M){f:FuncId}{ds:List D}{q:Nat}{k:D->Hp->Prop}{vs:Array Value}(hd:KA F w M (sg st.hp) ds vs.toList)(h:HV P st.hp f ds q k):
   Apw P f vs w λ e w'=>∃v d h' F' M',e= .returned v/\k d h'/\Rel c {st with hp:=h'} a w' F' M'/\DR F' w' M' (sg h') d v:=by
 unfold HV at h;generalize DY st.hp (DB ds)=T at h;obtain ⟨hT,DD,No⟩:=h;have ON:∀id,id∈T->∃o,get st.hp id=some o:=λ id hid=>by
   have:=AB.1 DD id hid;exact Bt.1 this
 have Adv:∀j,get (sub st.hp (idx T base) base T) j=if base<=j then ((T[j - base]?).bind (get st.hp)).map (AO.Ek (idx T base)) else none:=Ae1 _ _ T base
 have Am2:∀i id,T[i]?=some id->sg (sub st.hp (idx T base) base T) (base+i)=sg st.hp id:=λ i id hi=>by
   unfold sg;rw[Adv,if_pos (Nat.le_add_right _ _),A3,hi];cases ho:get st.hp id with
   | none=>simp[ho]
   | some o=>simp[ho,R8]
 have hρ:∀id j,idx T base id=some j->sg st.hp id≠none->(λ j=>M (T.getD (j - base) 0)) j=M id/\sg (sub st.hp (idx T base) base T) j=sg st.hp id:=λ id j hj _=>by
   obtain ⟨i,rfl,hi⟩:=JP T base id j hj;refine ⟨?_,Am2 i id hi⟩;simp only[A3,Av,hi,A5]
 have Ac4:∀b,E8 (λ j=>M (T.getD (j - base) 0)) (sub st.hp (idx T base) base T) b->∃(i id:Nat) (o:AO),T[i]?=some id/\get st.hp id=some o/\o.Gz (M id) b:=by
   rintro b ⟨j,o,hj,CT⟩;rw[Adv] at hj;split at hj
   case isFalse=>cases hj
   cases hi:T[j - base]? with
   | none=>rw[hi] at hj;simp at hj
   | some id=>
     rw[hi] at hj;simp only[Aa] at hj;cases ho:get st.hp id with
     | none=>rw[ho] at hj;simp at hj
     | some o2=>
       rw[ho] at hj;simp only[Bk,Al] at hj;subst hj;have hM:M (T.getD (j - base) 0)=M id:=by simp only[Av,hi,A5]
       simp only[hM,Eo] at CT ⊢;exact ⟨j - base,id,o2,hi,ho,CT⟩
 have hHR:HR F w (λ j=>M (T.getD (j - base) 0)) (sub st.hp (idx T base) base T):=by
   have key:∀j o,get (sub st.hp (idx T base) base T) j=some o->∃id o2,T[j - base]?=some id/\base<=j/\get st.hp id=some o2/\o=o2.Ek (idx T base)/\M (T.getD (j - base) 0)=M id:=by
     intro j o hj;rw[Adv] at hj;split at hj
     case isFalse=>cases hj
     rename_i hle;cases hi:T[j - base]? with
     | none=>rw[hi] at hj;simp at hj
     | some id=>
       rw[hi] at hj;simp only[Aa] at hj;cases ho:get st.hp id with
       | none=>rw[ho] at hj;simp at hj
       | some o2=>
         rw[ho] at hj;simp only[Bk,Al] at hj;exact ⟨id,o2,rfl,hle,ho,hj.symm,by simp only[Av,hi,A5]⟩
   constructor
   . intro j o hj;obtain ⟨id,o2,_,_,ho,rfl,hM⟩:=key j o hj;simp only[hM];exact (hr.heap.obj id o2 ho).Ek hρ
   . intro j o j' o' b hj Hu CT Ez;obtain ⟨id,o2,hi,hle,ho,rfl,hM⟩:=key j o hj;obtain ⟨PW,o2',UB,Ay9,N7,rfl,hM'⟩:=key j' o' Hu;simp only[hM,hM',Eo] at CT Ez;have:=hr.heap.inj id o2 PW o2' b ho N7 CT Ez;subst this;have:=WJ hT hi UB;omega
 refine (No vs w F _ hHR hr.CW.Fl (λ id hid=>by
   by_cases e:base<=id
   . exact e
   . exact (hid (by unfold sg;rw[Adv,if_neg e];rfl)).elim) (hd.Ek hρ)).mono ?_
 rintro e w' ⟨v,h',r,F',M',rfl,⟨Ac7,hk⟩,V6,Avm,hK⟩;refine ⟨v,D.Ek (back T q) r,merge T q st.hp h',F',?_⟩;have Ho:∀j id,back T q j=some id->(∃o,get h' j=some o)->(base<=j/\T[j - base]?=some id)∨(j<base/\get st.hp id=none):=by
   intro j id hb ⟨o,ho⟩;unfold back at hb;by_cases e1:base<=j
   . rw[if_pos e1] at hb;exact .inl ⟨e1,hb⟩
   . rw[if_neg e1] at hb;simp only[Al] at hb;refine .inr ⟨by omega,?_⟩;have:=(UI Ac7 j o ho).resolve_left e1;rwa[hb] at this
 have Po:∀id i j,back T q i=some id->back T q j=some id->(∃o,get h' i=some o)->(∃o,get h' j=some o)->i=j:=by
   intro id i j hi hj hoi hoj;have h1:=Ho i id hi hoi;have h2:=Ho j id hj hoj;rcases h1 with ⟨h1,h3⟩ | ⟨h1,h3⟩<;>rcases h2 with ⟨h2,h4⟩ | ⟨h2,h4⟩
   . have:=WJ hT h3 h4;omega
   . obtain ⟨o,ho⟩:=ON id (AQ h3);rw[h4] at ho;cases ho
   . obtain ⟨o,ho⟩:=ON id (AQ h4);rw[h3] at ho;cases ho
   . unfold back at hi hj;rw[if_neg (by omega)] at hi hj;simp only[Al] at hi hj;omega
 classical
 let M2:Nat->Mb:=λ id=>if hx:∃j,(∃o,get h' j=some o)/\back T q j=some id then M' hx.choose else M id
 have hM2:∀j id,(∃o,get h' j=some o)->back T q j=some id->M2 id=M' j:=by
   intro j id ho hb;have hx:∃j,(∃o,get h' j=some o)/\back T q j=some id:=⟨j,ho,hb⟩;simp only[M2,dif_pos hx];rw[Po id _ _ hx.choose_spec.2 hb hx.choose_spec.1 ho]
 have Ac9:∀id,(∀j o,get h' j=some o->back T q j≠some id)->M2 id=M id:=by
   intro id Oz;simp only[M2];rw[dif_neg];rintro ⟨j,⟨o,ho⟩,hb⟩;exact Oz j o ho hb
 have Cx:∀id,(∃j o,get h' j=some o/\back T q j=some id/\get (merge T q st.hp h') id=some (o.Ek (back T q)))∨
     ((∀j o,get h' j=some o->back T q j≠some id)/\get (merge T q st.hp h') id=get st.hp id):=by
   intro id;rcases get_merge (T:=T) (q:=q) (h:=st.hp) (h':=h') id with h1 | h1 | h1
   . exact .inl h1
   . exact .inr h1
   . exact (h1 (Po id)).elim
 have hσ:∀j id,back T q j=some id->sg h' j≠none->M2 id=M' j/\sg (merge T q st.hp h') id=sg h' j:=by
   intro j id hb hs;have ho:∃o,get h' j=some o:=by
     cases hg:get h' j with
     | none=>exact (hs (by simp[sg,hg])).elim
     | some o=>exact ⟨o,rfl⟩
   refine ⟨hM2 j id ho hb,?_⟩;rcases Cx id with ⟨j2,o2,h1,h2,h3⟩ | ⟨h1,_⟩
   . have:=Po id j j2 hb h2 ho ⟨o2,h1⟩;subst this;simp[sg,h1,h3,R8]
   . obtain ⟨o,ho⟩:=ho;exact (h1 j o ho hb).elim
 have Axy:∀id,(∃o,get st.hp id=some o)->id∉T->(∀j o,get h' j=some o->back T q j≠some id):=by
   intro id ⟨o,ho⟩ hid j o2 hj hb;rcases Ho j id hb ⟨o2,hj⟩ with ⟨_,h1⟩ | ⟨_,h1⟩
   . exact hid (AQ h1)
   . rw[h1] at ho;cases ho
 have Am3:∀id o,get st.hp id=some o->id∉T->get (merge T q st.hp h') id=some o/\M2 id=M id:=by
   intro id o ho hid;have Oz:=Axy id ⟨o,ho⟩ hid;rcases Cx id with ⟨j,o2,h1,h2,h3⟩ | ⟨_,h2⟩
   . exact (Oz j o2 h1 h2).elim
   . exact ⟨by rw[h2,ho],Ac9 id Oz⟩
 have Av4:C1 M M2 (sg st.hp) (sg (merge T q st.hp h')):=by
   have hK2:=hK.XQ;simp only at hK2;refine ⟨λ id hid=>?_,λ id sz n hid=>?_,λ id sz n kk hid=>?_⟩
   . by_cases Fe:id∈T
     . obtain ⟨i,hi⟩:=A4.1 Fe;obtain ⟨h1,h2⟩:=hK2.1 (base+i) (by rw[Am2 i id hi];exact hid);have hb:back T q (base+i)=some id:=by unfold back;rw[if_pos (Nat.le_add_right _ _),A3];exact hi
       obtain ⟨h3,h4⟩:=hσ _ _ hb (by rw[h1];simp);refine ⟨by rw[h4,h1],?_⟩;rw[h3,h2];simp only[A3,Av,hi,A5]
     . obtain ⟨o,ho,hso⟩:=Akb hid;obtain ⟨h1,h2⟩:=Am3 id _ ho Fe;exact ⟨by simp[sg,h1,hso],by rw[h2]⟩
   . by_cases Fe:id∈T
     . obtain ⟨i,hi⟩:=A4.1 Fe;obtain ⟨n',h1,EN,h2⟩:=hK2.2.1 (base+i) sz n (by rw[Am2 i id hi];exact hid);have hb:back T q (base+i)=some id:=by unfold back;rw[if_pos (Nat.le_add_right _ _),A3];exact hi
       obtain ⟨h3,h4⟩:=hσ _ _ hb (by rw[h1];simp);refine ⟨n',by rw[h4,h1],EN,λ e=>?_⟩;rw[h3,h2 e];simp only[A3,Av,hi,A5]
     . have:∃o,get st.hp id=some o:=by
         cases hg:get st.hp id with
         | none=>simp[sg,hg] at hid
         | some o=>exact ⟨o,rfl⟩
       obtain ⟨o,ho⟩:=this;obtain ⟨h1,h2⟩:=Am3 id o ho Fe;refine ⟨n,?_,Ai _,λ _=>h2⟩;simp only[sg,h1,ho] at hid ⊢;exact hid
   . by_cases Fe:id∈T
     . obtain ⟨i,hi⟩:=A4.1 Fe;obtain ⟨n',k',h1,EN,Avo,h2,Ij⟩:=hK2.2.2 (base+i) sz n kk (by rw[Am2 i id hi];exact hid);have hb:back T q (base+i)=some id:=by unfold back;rw[if_pos (Nat.le_add_right _ _),A3];exact hi
       obtain ⟨h3,h4⟩:=hσ _ _ hb (by rw[h1];simp);refine ⟨n',k',by rw[h4,h1],EN,Avo,λ e=>?_,λ e=>?_⟩
       . rw[h3];have h5:=h2 e;simp only[A3,Av,hi,A5] at h5;exact h5
       . rw[h3];have h5:=Ij e;simp only[A3,Av,hi,A5] at h5;exact h5
     . have:∃o,get st.hp id=some o:=by
         cases hg:get st.hp id with
         | none=>simp[sg,hg] at hid
         | some o=>exact ⟨o,rfl⟩
       obtain ⟨o,ho⟩:=this;obtain ⟨h1,h2⟩:=Am3 id o ho Fe;refine ⟨n,kk,?_,Ai _,Ai _,λ _=>by rw[h2];exact ⟨rfl,rfl⟩,λ _=>by rw[h2]⟩;simp only[sg,h1,ho] at hid ⊢;exact hid
 have RM:∀id o b,get st.hp id=some o->o.Gz (M id) b->id∉T->¬E8 (λ j=>M (T.getD (j - base) 0)) (sub st.hp (idx T base) base T) b:=by
   intro id o b ho CT hid hO;obtain ⟨i,id2,o2,h1,h2,h3⟩:=Ac4 _ hO;have:=hr.heap.inj id2 o2 id o b h2 ho h3 CT;subst this;exact hid (AQ h1)
 have hF:∀b,F b->w'.heap[b]?=w.heap[b]?:=λ b hb=>hK.N2 b (hr.CW.Fl b hb) (λ hO=>by
   obtain ⟨i,id,o,h1,h2,h3⟩:=Ac4 _ hO;exact hr.heap.JL ⟨id,o,h2,h3⟩ hb)
 have Bbq:∀id o b,get st.hp id=some o->o.Gz (M id) b->id∉T->¬F' b:=λ id o b ho CT hid hf=>by
   rcases hK.Fn _ hf with h1 | h1 | h1
   . exact hr.heap.JL ⟨id,o,ho,CT⟩ h1
   . exact RM id o b ho CT hid h1
   . have:=hr.heap.lt ⟨id,o,ho,CT⟩;simp only at h1;omega
 refine ⟨M2,rfl,hk,?_,Avm.Ek hσ⟩;have Yj:∀id o,get (merge T q st.hp h') id=some o->(∀j o,get h' j=some o->back T q j≠some id)->get st.hp id=some o->id∉T:=by
   intro id o _ Oz ho Fe;obtain ⟨i,hi⟩:=A4.1 Fe;have hb:back T q (base+i)=some id:=by unfold back;rw[if_pos (Nat.le_add_right _ _),A3];exact hi
   have hs:sg (sub st.hp (idx T base) base T) (base+i)≠none:=by rw[Am2 i id hi];simp[sg,ho]
   have:∃o,get h' (base+i)=some o:=by
     cases Pm:sg (sub st.hp (idx T base) base T) (base+i) with
     | none=>exact (hs Pm).elim
     | some s2=>
       cases s2 with
       | box=>
         have h1:=(hK.XQ.1 _ Pm).1;obtain ⟨o,hcs,_⟩:=Akb h1;exact ⟨_,hcs⟩
       | arr sz n=>
         obtain ⟨n',h1,_⟩:=hK.XQ.2.1 _ sz n Pm;rcases Aui h1 with ⟨t,es,h2,_⟩ | ⟨es,h2,_⟩ | ⟨_,h2,_⟩
         . exact ⟨_,h2⟩
         . exact ⟨_,h2⟩
         . exact ⟨_,h2⟩
       | DF sz n kk=>
         obtain ⟨n',k',h1,_⟩:=hK.XQ.2.2 _ sz n kk Pm;unfold sg at h1;cases k4:get h' (base+i) with
         | none=>rw[k4] at h1;simp at h1
         | some o3=>exact ⟨o3,rfl⟩
   obtain ⟨o2,VB⟩:=this;exact Oz _ o2 VB hb
 constructor
 . intro t d ht;exact (hr.env t d ht).CW hF hK.F0 Av4
 . exact hr.size
 . exact hr.defers
 . constructor
   . intro id o ho;rcases Cx id with ⟨j,o2,h1,h2,h3⟩ | ⟨h1,h2⟩
     . rw[h3] at ho;cases ho;rw[hM2 j id ⟨o2,h1⟩ h2];exact (V6.obj j o2 h1).Ek hσ
     . have N7:get st.hp id=some o:=by rw[<-h2];exact ho
       have hid:=Yj id o ho h1 N7;rw[Ac9 id h1];exact (hr.heap.obj id o N7).CW hF hK.F0 Av4 (λ b CT=>⟨hK.N2 b (hr.heap.lt ⟨id,o,N7,CT⟩) (RM id o b N7 CT hid),Bbq id o b N7 CT hid⟩)
   . intro id o PW o' b ho N7 CT Ez;have Ats:∀j oj id2 o2,get h' j=some oj->oj.Gz (M' j) b->get st.hp id2=some o2->o2.Gz (M id2) b->id2∉T->False:=by
       intro j oj id2 o2 hj Axw h2 Adr Bbx;rcases hK.own _ ⟨j,oj,hj,Axw⟩ with h3 | h3
       . exact RM id2 o2 b h2 Adr Bbx h3
       . have:=hr.heap.lt ⟨id2,o2,h2,Adr⟩;simp only at h3;omega
     rcases Cx id with ⟨j,o2,h1,h2,h3⟩ | ⟨h1,h2⟩<;>rcases Cx PW with ⟨j',o2',EN,Ij,h3'⟩ | ⟨EN,Ij⟩
     . rw[h3] at ho;rw[h3'] at N7;cases ho;cases N7;rw[hM2 j id ⟨o2,h1⟩ h2] at CT;rw[hM2 j' PW ⟨o2',EN⟩ Ij] at Ez;have:=V6.inj j o2 j' o2' b h1 EN ((Eo _ _ _ _).1 CT) ((Eo _ _ _ _).1 Ez);subst this;rw[h2] at Ij;cases Ij;rfl
     . rw[h3] at ho;cases ho;have VB:get st.hp PW=some o':=by rw[<-Ij];exact N7
       rw[hM2 j id ⟨o2,h1⟩ h2] at CT;rw[Ac9 PW EN] at Ez;exact (Ats j o2 PW o' h1 ((Eo _ _ _ _).1 CT) VB Ez (Yj PW o' N7 EN VB)).elim
     . rw[h3'] at N7;cases N7;have VB:get st.hp id=some o:=by rw[<-h2];exact ho
       rw[hM2 j' PW ⟨o2',EN⟩ Ij] at Ez;rw[Ac9 id h1] at CT;exact (Ats j' o2' id o EN ((Eo _ _ _ _).1 Ez) VB CT (Yj id o ho h1 VB)).elim
     . have VB:get st.hp id=some o:=by rw[<-h2];exact ho
       have Bbj:get st.hp PW=some o':=by rw[<-Ij];exact N7
       rw[Ac9 id h1] at CT;rw[Ac9 PW EN] at Ez;exact hr.heap.inj id o PW o' b VB Bbj CT Ez
 . have Hn:=hr.CW;have Ame:∀b,E8 (λ j=>M (T.getD (j - base) 0)) (sub st.hp (idx T base) base T) b->c.O0 b∨c.w0.heap.size<=b:=λ b hO=>by
     obtain ⟨i,id,o,h1,h2,h3⟩:=Ac4 _ hO;exact Hn.own _ ⟨id,o,h2,h3⟩
   refine ⟨hK.os.trans Hn.os,hK.tape.trans Hn.tape,hK.output.trans Hn.output,Bp Hn.size hK.size,λ b hb hO=>?_,λ b hb=>hK.F0 b (Hn.F0 b hb),λ b hb=>?_,hK.Fl,?_,Hn.XQ.trans Av4,Hn.s0b⟩
   . rw[hK.N2 b (Nat.lt_of_lt_of_le hb Hn.size) (λ hO2=>?_)]
     . exact Hn.N2 b hb hO
     . rcases Ame b hO2 with h1 | h1
       . exact hO h1
       . omega
   . rcases hK.Fn b hb with h1 | h1 | h1
     . exact Hn.Fn b h1
     . exact .inr (Ame b h1)
     . exact .inr (.inr (Bp Hn.size h1))
   . rintro b ⟨id,o,ho,CT⟩;rcases Cx id with ⟨j,o2,h1,h2,h3⟩ | ⟨h1,h2⟩
     . rw[h3] at ho;cases ho;rw[hM2 j id ⟨o2,h1⟩ h2] at CT;rcases hK.own _ ⟨j,o2,h1,(Eo _ _ _ _).1 CT⟩ with h4 | h4
       . exact Ame _ h4
       . exact .inr (Bp Hn.size h4)
     . have VB:get st.hp id=some o:=by rw[<-h2];exact ho
       rw[Ac9 id h1] at CT;exact Hn.own _ ⟨id,o,VB,CT⟩
end
end Go.Am
namespace Go.Am
open Go
section
variable {P:Program} {c:Ctx} {st:St} {a:Act} {w:World} {F:Nat->Prop} {M:Nat->Mb}
theorem Rel.put(hr:Rel c st a w F M){d:D}{v:Value}(hd:DR F w M (sg st.hp) d v)(t:Option Tmp):Rel c (st.put t d) (a.put t v) w F M:=by
 cases t with
 | none=>exact hr
 | some t=>
   simp only[St.put,Act.put];by_cases ht:t<st.n
   . rw[if_pos ht];have Cv:t<a.tmps.size:=by rw[hr.size];exact ht
     refine ⟨λ q e hq=>?_,by simp[hr.size],hr.defers,hr.heap,hr.CW⟩;simp only[Cw] at hq;have FJ:=hr.size;by_cases e1:t=q
     . subst e1;simp only[AP,Al] at hq;subst hq;have:(a.tmps.setIfInBounds t v).getD t undef=v:=by rw[At,Array.getElem?_setIfInBounds,if_pos rfl,if_pos Cv];rfl
       rw[this];exact hd
     . rw[if_neg e1] at hq;have:(a.tmps.setIfInBounds t v).getD q undef=a.tmps.getD q undef:=by rw[At,At,Array.getElem?_setIfInBounds,if_neg e1]
       rw[this];exact hr.env q e hq
   . rw[if_neg ht];have:a.tmps.setIfInBounds t v=a.tmps:=by
       have hge:¬t<a.tmps.size:=by rw[hr.size];exact ht
       unfold Array.setIfInBounds;rw[dif_neg hge]
     rw[this];exact hr
theorem D1(hr:Rel c st a w F M){d:D}{v:Value}(hd:DR F w M (sg st.hp) d v){k:D->Hp->Prop}(h:bor st.hp d k):
   ∃d' h' F',k d' h'/\Rel c {st with hp:=h'} a w F' M/\(∀b,F b->F' b)/\sg h'=sg st.hp/\DR F' w M (sg h') d' v:=by
 have plain:k d st.hp->∃d' h' F',k d' h'/\Rel c {st with hp:=h'} a w F' M/\(∀b,F b->F' b)/\sg h'=sg st.hp/\DR F' w M (sg h') d' v:=
   λ hk=>⟨d,st.hp,F,hk,hr,λ _ h=>h,rfl,hd⟩
 unfold bor at h;cases d with
 | ref id off len N=>
   have h2:KW st.hp (.ref id off len N) (λ x h'=>k (.p x) h'):=by
     unfold KW;simp only at h ⊢;exact h
   obtain ⟨x,h',F',hk,h3,h4,h5,h6⟩:=LI hr hd h2;exact ⟨_,h',F',hk,h3,h4,h5,.p h6⟩
 | DI id n=>
   have h2:KW st.hp (.DI id n) (λ x h'=>k (.p x) h'):=by
     unfold KW;simp only at h ⊢;exact h
   obtain ⟨x,h',F',hk,h3,h4,h5,h6⟩:=LI hr hd h2;exact ⟨_,h',F',hk,h3,h4,h5,.p h6⟩
 | cl es=>cases hd with | cl _ ad hx _=>exact ⟨_,st.hp,F,h,hr,λ _ h=>h,rfl,.p hx⟩
 | _=>exact plain h
mutual
theorem PN:∀(d:D) {st:St} {F:Nat->Prop} {v:Value},Rel c st a w F M->DR F w M (sg st.hp) d v->∀{k:D->Hp->Prop},Fu st.hp d k->
    ∃d' h' F',k d' h'/\Rel c {st with hp:=h'} a w F' M/\(∀b,F b->F' b)/\sg h'=sg st.hp/\DR F' w M (sg h') d' v
  | .agg cs,st,F,v,hr,hd,k,h=>by
    cases hd with
    | agg _ vs hl hc=>
      simp only[Fu] at h;obtain ⟨ds,h',F',hk,h1,h2,h3,h4⟩:=Ki cs vs.toList hr ⟨by simpa using hl,λ i e he=>by have:=hc i e he;simpa [List.getD,Array.getD_eq_getD_getElem?] using this⟩ h;exact ⟨_,h',F',hk,h1,h2,h3,.agg _ vs (by have:=h4.1;simpa using this) (λ i e he=>by have:=h4.2 i e he;simpa [List.getD,Array.getD_eq_getD_getElem?] using this)⟩
  | .Dv cs,st,F,v,hr,hd,k,h=>by
    cases hd with
    | Dv _ vs hl hc=>
      simp only[Fu] at h;obtain ⟨ds,h',F',hk,h1,h2,h3,h4⟩:=Ki cs vs.toList hr ⟨by simpa using hl,λ i e he=>by have:=hc i e he;simpa [List.getD,Array.getD_eq_getD_getElem?] using this⟩ h;exact ⟨_,h',F',hk,h1,h2,h3,.Dv _ vs (by have:=h4.1;simpa using this) (λ i e he=>by have:=h4.2 i e he;simpa [List.getD,Array.getD_eq_getD_getElem?] using this)⟩
  | .p x,st,F,v,hr,hd,k,h=>D1 hr hd (by simpa only[Fu] using h)
  | .cl x,st,F,v,hr,hd,k,h=>D1 hr hd (by simpa only[Fu] using h)
  | .cz x,st,F,v,hr,hd,k,h=>D1 hr hd (by simpa only[Fu] using h)
  | .ref _ _ _ _,st,F,v,hr,hd,k,h=>D1 hr hd (by simpa only[Fu] using h)
  | .ptr _ _,st,F,v,hr,hd,k,h=>D1 hr hd (by simpa only[Fu] using h)
  | .pe _,st,F,v,hr,hd,k,h=>D1 hr hd (by simpa only[Fu] using h)
  | .ea _ _ _ _,st,F,v,hr,hd,k,h=>D1 hr hd (by simpa only[Fu] using h)
  | .fn _ _,st,F,v,hr,hd,k,h=>D1 hr hd (by simpa only[Fu] using h)
  | .np,st,F,v,hr,hd,k,h=>D1 hr hd (by simpa only[Fu] using h)
  | .mv _,st,F,v,hr,hd,k,h=>D1 hr hd (by simpa only[Fu] using h)
  | .DI _ _,st,F,v,hr,hd,k,h=>D1 hr hd (by simpa only[Fu] using h)
  | .M9 _ _ _,st,F,v,hr,hd,k,h=>D1 hr hd (by simpa only[Fu] using h)
  | .nr _ _ _ _,st,F,v,hr,hd,k,h=>D1 hr hd (by simpa only[Fu] using h)
  | .SW,st,F,v,hr,hd,k,h=>D1 hr hd (by simpa only[Fu] using h)
  | .bad,st,F,v,hr,hd,k,h=>D1 hr hd (by simpa only[Fu] using h)
theorem Ki:∀(ds:List D) {st:St} {F:Nat->Prop} (vs:List Value),Rel c st a w F M->KA F w M (sg st.hp) ds vs->∀{k:List D->Hp->Prop},QZ st.hp ds k->
    ∃r8 h' F',k r8 h'/\Rel c {st with hp:=h'} a w F' M/\(∀b,F b->F' b)/\sg h'=sg st.hp/\KA F' w M (sg h') r8 vs
  | [],st,F,vs,hr,hd,k,h=>by
    simp only[QZ] at h;exact ⟨[],st.hp,F,h,hr,λ _ h=>h,rfl,hd⟩
  | d::ds,st,F,vs,hr,hd,k,h=>by
    cases vs with
    | nil=>have:=hd.1;simp at this
    | cons v vs=>
      simp only[QZ] at h;have hd0:DR F w M (sg st.hp) d v:=by simpa [List.getD] using hd.2 0 d rfl
      obtain ⟨x,h1,F1,hk,HJ,hF1,Lw,hx⟩:=PN d hr hd0 h;have OD:KA F1 w M (sg h1) ds vs:=by
        refine ⟨by have:=hd.1;simpa using this,λ i e he=>?_⟩;have:=hd.2 (i+1) e (by simpa using he);rw[Lw];have h3:DR F w M (sg st.hp) e (vs.getD i undef):=by simpa [List.getD] using this
        exact h3.CW (λ _ _=>rfl) hF1 (C1.refl _ _)
      obtain ⟨xs,h2,F2,IF,HM,hF2,Pm,HT⟩:=Ki ds (st:={st with hp:=h1}) vs HJ OD hk;refine ⟨x::xs,h2,F2,IF,HM,λ b hb=>hF2 b (hF1 b hb),Pm.trans Lw,by have:=HT.1;simpa using this,λ i y hy=>?_⟩;cases i with
      | zero=>
        simp only[AK,Al] at hy;subst hy;have h4:=hx.CW (w':=w) (λ _ _=>rfl) hF2 (C1.refl M (sg h1));rw[Pm]
        simpa [List.getD] using h4
      | succ i=>simp only[List.getElem?_cons_succ] at hy;simpa [List.getD] using HT.2 i y hy
end
theorem RU(hr:Rel c st a w F M)(xs:List Operand):KA F w M (sg st.hp) (xs.map (ev st)) (xs.map a.eval):=by
 refine ⟨by simp,λ i d hd=>?_⟩;rw[AS] at hd;cases hx:xs[i]? with
 | none=>rw[hx] at hd;cases hd
 | some x=>
   rw[hx] at hd;cases hd;rw[Av,AS,hx];exact Co hr x
theorem Ui{hp:Hp}{t:TypeId}{x:D}{k:D->Prop}(h:Alr P hp t x k){vx:Value}(hx:DR F w M (sg hp) x vx)(ts:Array TypeId)(ty:TypeId)(ht:ts[0]?=some t):
   ∃d v,k d/\DR F w M (sg hp) d v/\(Builtin.len_ ts ty #[vx]).run P w= .ok v w:=by
 unfold Alr at h;split at h
 case h_2=>exact h.elim
 rename_i ti h1;obtain ⟨i1,u1,z1,Ii,Fq,_,rfl⟩:=Ch h1;split at h
 . rename_i l hk;obtain rfl:=D4 hk;cases hx with | p hx=>cases hx;exact ⟨_,_,h,.p (.int _ _),by simp[Builtin.len_,ht,run_underlying Fq,goInt,HB]⟩
 . rename_i e es hk;obtain rfl:=C4 hk;cases hx with | p hx=>
     have:∃ad cap,vx= .slice ad es.length cap:=by cases hx<;>exact ⟨_,_,rfl⟩
     obtain ⟨ad,cap,rfl⟩:=this;exact ⟨_,_,h,.p (.int _ _),by simp[Builtin.len_,ht,run_underlying Fq,goInt]⟩
 . rename_i e es hk;obtain rfl:=C4 hk;cases hx with | cl _ ad hx _=>exact ⟨_,_,h,.p (.int _ _),by simp[Builtin.len_,ht,run_underlying Fq,goInt]⟩
 . rename_i e id off len N hk;obtain rfl:=C4 hk;cases hx with
   | ref _ _ _ _ sz n _ hs hN hv h2=>
     rw[hs] at h;obtain ⟨ad,cap,rfl,_⟩:=h2 h.1;exact ⟨_,_,h.2,.p (.int _ _),by simp[Builtin.len_,ht,run_underlying Fq,goInt]⟩
 . rename_i e id n hk;obtain rfl:=C4 hk;cases hx with
   | DI _ _ sz m kk _ hs hN hv h2=>
     obtain ⟨ad,cap,rfl,_⟩:=hv;exact ⟨_,_,h,.p (.int _ _),by simp[Builtin.len_,ht,run_underlying Fq,goInt]⟩
 . rename_i e id i len q hk;obtain rfl:=C4 hk;cases hx with
   | nr _ _ _ _ sz m kk _ hs hN hv h2=>
     obtain ⟨ad,cap,rfl⟩:=hv;exact ⟨_,_,h,.p (.int _ _),by simp[Builtin.len_,ht,run_underlying Fq,goInt]⟩
 . rename_i n e _ hk;obtain rfl:=ID hk;exact ⟨_,_,h,.p (.int _ _),by simp[Builtin.len_,ht,run_underlying Fq,goInt]⟩
 . exact h.elim
theorem ZU{α:Type}{x:α}{f:Operand->α}{xs:Array Operand}(h:xs.toList.map f=[x]):∃q,xs=#[q]/\f q=x:=by
 obtain ⟨l⟩:=xs;simp only at h;cases l with
 | nil=>simp at h
 | cons q r=>
   cases r with
   | nil=>simp only[AH,BE,List.cons.injEq,and_true] at h;exact ⟨q,rfl,h⟩
   | cons _ _=>simp at h
theorem Iw{α:Type}{x y:α}{f:Operand->α}{xs:Array Operand}(h:xs.toList.map f=[x,y]):∃q r,xs=#[q,r]/\f q=x/\f r=y:=by
 obtain ⟨l⟩:=xs;simp only at h;cases l with
 | nil=>simp at h
 | cons q r=>
   cases r with
   | nil=>simp at h
   | cons q2 r2=>
     cases r2 with
     | nil=>simp only[AH,BE,List.cons.injEq,and_true] at h;exact ⟨q,q2,rfl,h.1,h.2⟩
     | cons _ _=>simp at h
theorem NL(hr:Rel c st a w F M){o:Oper}{cl:Call}{b:Builtin}(ho:o.op= .call cl)(hb:cl.callee= .builtin b){q:Nat}{k:D->Hp->Prop}
   (h:NM P st q b cl.argTypes (cl.args.toList.map (ev st)) k):
   ∃d h' v w' M',k d h'/\Rel c {st with hp:=h'} a w' F M'/\DR F w' M' (sg h') d v/\(execOp a.eval o).run P w= .ok (.value v) w':=by
 unfold NM at h;generalize hl:cl.args.toList.map (ev st)=l at h;split at h
 ·
   rename_i x;obtain ⟨xq,IE,rfl⟩:=ZU hl;split at h
   case h_2=>exact h.elim
   rename_i t ht;obtain ⟨d,v,h1,h2,h3⟩:=Ui (P:=P) h (Co hr xq) cl.argTypes o.type ht;exact ⟨d,_,v,w,M,h1,hr,h2,by simp[execOp,ho,hb,resolve,invoke,builtin,IE,h3]⟩
 ·
   rename_i s x;obtain ⟨sq,xq,IE,rfl,rfl⟩:=Iw hl;split at h
   case h_2=>exact h.elim
   rename_i t t2 ht ht2;obtain ⟨d,h',v,w',M',h1,h2,h3,h4⟩:=Acv (P:=P) (ty:=o.type) hr (Co hr sq) (Co hr xq) h;have e:Builtin.append_ cl.argTypes o.type #[a.eval sq,a.eval xq]=Builtin.append_ #[t,t2] o.type #[a.eval sq,a.eval xq]:=by
     simp[Builtin.append_,ht,ht2]
   exact ⟨d,h',v,w',M',h1,h2,h3,by simp[execOp,ho,hb,resolve,invoke,builtin,IE,e,h4]⟩
 ·
   rename_i s x;obtain ⟨sq,xq,IE,rfl,rfl⟩:=Iw hl;split at h
   case h_2=>exact h.elim
   rename_i t t2 ht ht2;obtain ⟨d,h',v,w',M',h1,h2,h3,h4⟩:=w8 (P:=P) (t2:=t2) (ty:=o.type) hr (Co hr sq) (Co hr xq) h;have e:Builtin.copy_ cl.argTypes o.type #[a.eval sq,a.eval xq]=Builtin.copy_ #[t,t2] o.type #[a.eval sq,a.eval xq]:=by
     simp[Builtin.copy_,ht]
   exact ⟨d,h',v,w',M',h1,h2,h3,by simp[execOp,ho,hb,resolve,invoke,builtin,IE,e,h4]⟩
 ·
   rename_i k1 x k2 y;obtain ⟨xq,yq,IE,hx,hy⟩:=Iw hl;obtain ⟨rfl,hk⟩:=h;have h1:=Co hr xq;have h2:=Co hr yq;rw[hx] at h1;rw[hy] at h2;generalize ME:a.eval xq=vx at h1;generalize hvy:a.eval yq=vy at h2;cases h1 with | p h1=>cases h1;cases h2 with | p h2=>
     cases h2;exact ⟨_,_,_,w,M,hk,hr,.p (.int _ _),by simp[execOp,ho,hb,resolve,invoke,builtin,IE,ME,hvy,run_min_int2]⟩
 ·
   rename_i k1 x k2 y;obtain ⟨xq,yq,IE,hx,hy⟩:=Iw hl;obtain ⟨rfl,hk⟩:=h;have h1:=Co hr xq;have h2:=Co hr yq;rw[hx] at h1;rw[hy] at h2;generalize ME:a.eval xq=vx at h1;generalize hvy:a.eval yq=vy at h2;cases h1 with | p h1=>cases h1;cases h2 with | p h2=>
     cases h2;exact ⟨_,_,_,w,M,hk,hr,.p (.int _ _),by simp[execOp,ho,hb,resolve,invoke,builtin,IE,ME,hvy,run_max_int2]⟩
 . exact h.elim
theorem Afm(hr:Rel c st a w F M){o:Oper}{f:Operand}{args:List Operand}{g:FuncId}{cap:List D}{K:St->Prop}(ho:Dl o.op=some (f,args))(hg:ev st f= .fn g cap)
   (hk:HV P st.hp g (args.map (ev st)++cap) (o.dst.getD 0) λ d h'=>K (({st with hp:=h'}:St).put o.dst d)) (Q:Exit->Act->World->Prop):o.wp P a w (Good c K) Q:=by
 unfold Dl at ho;split at ho
 case h_2=>cases ho
 rename_i cl La;split at ho
 case h_2=>cases ho
 rename_i f' hf;simp only[Al,BV] at ho;obtain ⟨rfl,rfl⟩:=ho;have hfv:=Co hr f';rw[hg] at hfv;generalize hvf:a.eval f'=vf at hfv;cases hfv with
 | fn _ _ Vf hl hc=>
   have I5:=(RU hr cl.args.toList).append (cs':=cap) (vs':=Vf.toList) ⟨by simpa using hl,λ i e he=>by have:=hc i e he;simpa [List.getD,Array.getD_eq_getD_getElem?] using this⟩;rcases SO (vs:=cl.args.map a.eval++Vf) hr (by simpa using I5) hk with ⟨UE,Pu⟩ | ⟨v,w',IN,v',d,h2,F2,M2,hv',IF,HM,I4⟩
   . have DE:(execOp a.eval o).run P w= .ok (.enter g (cl.args.map a.eval++Vf)) w:=by
       simp only[execOp,La,hf,resolve,hvf,Deferred.ofValue,Sem.run_bind,Sem.run_pure,Result.andThen_ok,invoke,Array.empty_append];exact UE
     unfold Oper.wp;rw[DE];refine Pu.mono ?_;rintro e w' ⟨v,d,h2,F2,M2,rfl,IF,HM,I4⟩;exact ⟨_,F2,M2,IF,HM.put I4 o.dst⟩
   . have DE:(execOp a.eval o).run P w= .ok (.value v) w':=by
       simp only[execOp,La,hf,resolve,hvf,Deferred.ofValue,Sem.run_bind,Sem.run_pure,Result.andThen_ok,invoke,Array.empty_append];exact IN
     cases hv';unfold Oper.wp;rw[DE];exact ⟨_,F2,M2,IF,HM.put I4 o.dst⟩
theorem Ra(hr:Rel c st a w F M){s:Bool}{o:Oper}{K:St->Prop}(h:Rd P s o K st)(Q:Exit->Act->World->Prop):o.wp P a w (Good c K) Q:=by
 have val:∀{d v},K (st.put o.dst d)->DR F w M (sg st.hp) d v->(execOp a.eval o).run P w= .ok (.value v) w->o.wp P a w (Good c K) Q:=by
   intro d v hk hd DE;unfold Oper.wp;rw[DE];exact ⟨_,F,M,hk,hr.put hd o.dst⟩
 have mop:Azf P c st a w F o (λ d h=>K (({st with hp:=h}:St).put o.dst d))->o.wp P a w (Good c K) Q:=by
   rintro ⟨d,h',v,w',F',M',hk,J5,hF,hd,DE⟩;unfold Oper.wp;rcases DE with DE | ⟨rfl,DE⟩
   . rw[DE];exact ⟨_,F',M',hk,J5.put hd o.dst⟩
   . rw[DE];exact ⟨_,F',M',hk,J5.put hd o.dst⟩
 have other:(Ky P st o).all (λ x=>K (({st with hp:=x.2}:St).put o.dst x.1))->o.wp P a w (Good c K) Q:=by
   intro h;unfold Ky at h;split at h
   . rename_i cl ho;split at h
     . rename_i b hb;obtain ⟨d,h',v,w',M',hk,J5,hd,DE⟩:=NL hr ho hb (L8 (k:=λ d h=>K (({st with hp:=h}:St).put o.dst d)) h);unfold Oper.wp;rw[DE];exact ⟨_,F,M',hk,J5.put hd o.dst⟩
     . exact h.elim
   . exact mop (GB hr (Iv h))
   . exact mop (GB hr (Iv h))
   . exact mop (GB hr (Iv h))
   . exact mop (GB hr (Iv h))
   . exact mop (GB hr (Iv h))
   . exact mop (GB hr (Iv h))
   . exact mop (GB hr (Iv h))
   . have h1:=Ze (Ca (λ d hd=>hd.2) (Ce h));obtain ⟨d,v,hk,hd,DE⟩:=Wm hr h1;exact val hk hd DE
 unfold Rd at h;split at h
 . rename_i f args ho;unfold Dl at ho;split at ho
   case h_2=>cases ho
   rename_i cl La;split at ho
   case h_2=>cases ho
   rename_i f' hf;simp only[Al,BV] at ho;obtain ⟨rfl,rfl⟩:=ho;rcases D8 h with h | h
   case inr=>exact h.2 c a w F M Q hr
   have hfv:=Co hr f';unfold Hs at h;split at h
   case h_2=>exact h.elim
   rename_i g cap he;rw[he] at hfv;generalize hvf:a.eval f'=vf at hfv;cases hfv with
   | fn _ _ Vf hl hc=>
     have I5:=(RU hr cl.args.toList).append (cs':=cap) (vs':=Vf.toList) ⟨by simpa using hl,λ i e he=>by have:=hc i e he;simpa [List.getD,Array.getD_eq_getD_getElem?] using this⟩;have hb:=Ma (k:=λ ds h=>L6 (s=true/\OV P o K st) P h g ds (o.dst.getD 0) λ d h'=>K (({st with hp:=h'}:St).put o.dst d)) (Ca (λ x hx=>hx.2) (Ce h));obtain ⟨ds,h',F',hk,J5,hF,hs,hds⟩:=Ki _ _ hr I5 hb;rcases R0 hk with hk | hk
     case inr=>exact hk.2 c a w F M Q hr
     rcases SO (vs:=cl.args.map a.eval++Vf) J5 (by simpa using hds) hk with ⟨UE,Pu⟩ | ⟨v,w',IN,v',d,h2,F2,M2,hv',IF,HM,I4⟩
     . have DE:(execOp a.eval o).run P w= .ok (.enter g (cl.args.map a.eval++Vf)) w:=by
         simp only[execOp,La,hf,resolve,hvf,Deferred.ofValue,Sem.run_bind,Sem.run_pure,Result.andThen_ok,invoke,Array.empty_append];exact UE
       unfold Oper.wp;rw[DE];refine Pu.mono ?_;rintro e w' ⟨v,d,h2,F2,M2,rfl,IF,HM,I4⟩;exact ⟨_,F2,M2,IF,HM.put I4 o.dst⟩
     . have DE:(execOp a.eval o).run P w= .ok (.value v) w':=by
         simp only[execOp,La,hf,resolve,hvf,Deferred.ofValue,Sem.run_bind,Sem.run_pure,Result.andThen_ok,invoke,Array.empty_append];exact IN
       cases hv';unfold Oper.wp;rw[DE];exact ⟨_,F2,M2,IF,HM.put I4 o.dst⟩
 . rcases D8 h with h | h
   . exact other h
   . exact h.2 c a w F M Q hr
theorem SF(hr:Rel c st a w F M){ops:Array Oper}{o:Oper}{yes no:Prop}(h:F6 st ops.toList o.guard yes no):
   (Region.wanted o (yielded ops a.tmps)=true/\yes)∨(Region.wanted o (yielded ops a.tmps)=false/\no):=by
 unfold F6 at h;split at h
 . rename_i hg;exact .inl ⟨by simp[Region.wanted,hg],h⟩
 . rename_i j want hg;have hyl:∀{d:D},((ops.toList[j]?).bind (·.dst)).bind (get st.env)=some d->∃t,(ops[j]?).bind (·.dst)=some t/\DR F w M (sg st.hp) d (a.tmps.getD t undef):=by
     intro d hd;rw[Bj] at hd;cases ht:(ops[j]?).bind (·.dst) with
     | none=>rw[ht] at hd;cases hd
     | some t=>rw[ht] at hd;exact ⟨t,rfl,hr.env t d hd⟩
   split at h
   . rename_i b hb;obtain ⟨t,h1,h2⟩:=hyl hb;have hv:a.tmps[t]?=some (.bool b):=by
       generalize hq:a.tmps.getD t undef=v at h2;cases h2 with | p h2=>
         cases h2;rw[At] at hq;cases hx:a.tmps[t]? with
         | none=>rw[hx] at hq;simp[undef] at hq
         | some u=>rw[hx] at hq;simp at hq;rw[hq]
     have hw:Region.wanted o (yielded ops a.tmps)=(b==want):=by
       simp only[Region.wanted,hg,yielded,h1,Aa,hv];cases b<;>cases want<;>rfl
     rw[hw];by_cases e:(b==want)=true
     . exact .inl ⟨e,h.1 e⟩
     . exact .inr ⟨by simpa using e,h.2 (by simpa using e)⟩
   . rename_i hb;obtain ⟨t,h1,h2⟩:=hyl hb;refine .inr ⟨?_,h⟩;simp only[Region.wanted,hg,yielded,h1,Aa];generalize hq:a.tmps.getD t undef=v at h2;cases h2 with
     | Dv _ vs hl _=>
       rw[At] at hq;cases hx:a.tmps[t]? with
       | none=>rfl
       | some u=>rw[hx] at hq;simp at hq;rw[hq];rfl
   . exact h.elim
theorem Rel.drew(hr:Rel c st a w F M):Rel c st a {w with drawn:=w.drawn+1} F M:=by
 have hs:=C1.refl M (sg st.hp);refine ⟨λ t d ht=>(hr.env t d ht).CW (λ _ _=>rfl) (λ _ h=>h) hs,hr.size,hr.defers,hr.heap.CW (λ _ _=>rfl) (λ _ _=>rfl),?_⟩;have hk:=hr.CW;exact ⟨hk.os,hk.tape,hk.output,hk.size,hk.N2,hk.F0,hk.Fn,hk.Fl,hk.own,hk.XQ,hk.s0b⟩
theorem OZ{Q:Exit->Act->World->Prop}{s:Bool}{K:St->Prop}(ops:Array Oper)(hQ:∀a w,Good c K a w->Q .normal a w):∀(l:List Oper) {st:St} {a:Act} {w:World} {F:Nat->Prop} {M:Nat->Mb},
   Rel c st a w F M->VF P s ops.toList l K st->wpList P ops Q l a w
 | [],st,a,w,F,M,hr,h=>hQ _ _ ⟨st,F,M,h,hr⟩
 | o::rest,st,a,w,F,M,hr,h=>by
   simp only[VF] at h;refine wpList_step λ KK hKK=>?_;have yes:Rd P s o (VF P s ops.toList rest K) st->o.wp P a w KK Q:=λ hy=>
     Oper.wp_mono (λ a' w' ⟨st',F',M',h1,h2⟩=>hKK _ _ (OZ ops hQ rest h2 h1)) (Ra hr hy Q)
   have no:VF P s ops.toList rest K (st.put o.dst (.Dv []))->KK (a.put o.dst undef) w:=λ hn=>
     hKK _ _ (OZ ops hQ rest (hr.put (.Dv [] #[] rfl (λ i d hd=>by simp at hd)) o.dst) hn)
   rcases SF hr h with ⟨hw,hy⟩ | ⟨hw,hn⟩
   . rw[if_pos hw];exact yes hy
   . rw[if_neg (by rw[hw];simp)];exact no hn
theorem Aju{K:St->Prop}{Q:Exit->St->Prop}{e:Exit}{a:Act}{w:World}{N:Act->World->Prop}(hN:∀st F M,K st->Rel c st a w F M->N a w)(h:QC c (thn K Q) e a w):Exit.then N (QC c Q) e a w:=by
 obtain ⟨st,F,M,h1,h2⟩:=h;cases e<;>first
   | exact hN st F M h1 h2
   | exact ⟨st,F,M,h1,h2⟩
theorem Avw{id:Nat}{Q:Exit->St->Prop}{e:Exit}{a:Act}{w:World}(h:QC c (DQ id Q) e a w):Exit.inBlock id (QC c Q) e a w:=by
 obtain ⟨st,F,M,h1,h2⟩:=h;cases e with
 | exit PW=>
   simp only[DQ] at h1;simp only[Exit.inBlock];split at h1
   . rename_i e;rw[if_pos e];exact ⟨st,F,M,h1,h2⟩
   . rename_i e;rw[if_neg e];exact ⟨st,F,M,h1,h2⟩
 | _=>exact ⟨st,F,M,h1,h2⟩
theorem Hz:∀(x:Code) {Q:Exit->St->Prop} {st:St} {a:Act} {w:World} {F:Nat->Prop} {M:Nat->Mb},Rel c st a w F M->wA P x Q st->x.wp P (QC c Q) a w
 | .skip,Q,st,a,w,F,M,hr,h=>wp_skip ⟨st,F,M,h,hr⟩
 | .label _,Q,st,a,w,F,M,hr,h=>wp_label ⟨st,F,M,h,hr⟩
 | .ret,Q,st,a,w,F,M,hr,h=>wp_ret ⟨st,F,M,h,hr⟩
 | .exit id,Q,st,a,w,F,M,hr,h=>wp_exit ⟨st,F,M,h,hr⟩
 | .goto l,Q,st,a,w,F,M,hr,h=>wp_goto ⟨st,F,M,h,hr⟩
 | .seq x y,Q,st,a,w,F,M,hr,h=>by
   simp only[wA] at h;exact wp_seq (Code.wp_mono (λ e a' w' hq=>Aju (λ st F M h1 h2=>Hz y h2 h1) hq) (Hz x hr h))
 | .cond q x y,Q,st,a,w,F,M,hr,h=>by
   simp only[wA] at h;have hq:=Co hr q;split at h
   . rename_i b hb;rw[hb] at hq;generalize hv:a.eval q=v at hq;cases hq with | p hq=>
       cases hq;exact wp_cond_split hv (λ e=>Hz x hr (h.1 e)) (λ e=>Hz y hr (h.2 e))
   . exact h.elim
 | .block id x,Q,st,a,w,F,M,hr,h=>by
   simp only[wA] at h;exact wp_block (Code.wp_mono (λ e a' w' hq=>Avw hq) (Hz x hr h))
 | .loop x,Q,st,a,w,F,M,hr,h=>by
   simp only[wA] at h;obtain ⟨n,h⟩:=h;refine wp_loop_rounds n ?_;have key:∀(n:Nat) (st:St) (a:Act) (w:World) (F:Nat->Prop) (M:Nat->Mb),Rel c st a w F M->Y7 (wA P x) Q n st->Code.rounds P x (QC c Q) n a w:=by
     intro n
     induction n with
     | zero=>intro st a w F M _ h;exact h.elim
     | succ n ih=>
       intro st a w F M hr h;rw[rounds_succ];obtain ⟨st1,GO,h⟩:=h;obtain ⟨F1,M1,HJ⟩:=GO c a w F M hr;exact Code.wp_mono (λ e a' w' hq=>Aju (λ st F M h1 h2=>ih st _ _ F M h2 h1) hq) (Hz x HJ h)
   exact key n st a w F M hr h
 | .scope x,Q,st,a,w,F,M,hr,h=>by
   simp only[wA] at h;exact h c a w F M hr
 | .region id ops draw,Q,st,a,w,F,M,hr,h=>by
   simp only[wA] at h;rcases h with ⟨rfl,h⟩ | ⟨rfl,h⟩
   . exact wp_region_list (OZ ops (λ a' w' hg=>hg) ops.toList hr h)
   . exact h c a w F M hr
 | .rangeFunc ..,Q,st,a,w,F,M,hr,h=>by simp only[wA] at h
 | .refuse _,Q,st,a,w,F,M,hr,h=>by simp only[wA] at h
end
end Go.Am
namespace Go.Am
open Go
def SM:Nat->List D->List (Nat×D)
 | _,[]=>[]
 | k,d::r=>(k,d)::SM (k+1) r
def VM(P:Program)(st:St):List ResultVar->(List D->Prop)->Prop
 | [],k=>k []
 | .tmp t::r,k=>VM P st r λ ds=>k ((get st.env t).getD .bad::ds)
 | .cell t T::r,k=>WO P st.hp T ((get st.env t).getD .bad) λ d=>VM P st r λ ds=>k (d::ds)
def XJ:List D->D
 | [d]=>d
 | ds=> .Dv ds
def Pa(T:List Nat)(id:Nat):Option Nat:=if base<=id then (if id∈T then some id else none) else idx (T.filter (· <base)) 0 id
def pick(h:Hp)(ρ:Nat->Option Nat):List Nat->Hp
 | []=>[]
 | id::r=>match get h id,ρ id with
   | some o,some j=>(j,o.Ek ρ)::pick h ρ r
   | _,_=>pick h ρ r
def P9(h0:List Nat)(hp:Hp)(d:D)(R:Hp->D->Prop):Prop:=
 let T:=DY hp (h0++d.ids)
 T.Nodup/\(T.all λ id=>(get hp id).isSome)=true/\(h0.all λ id=>base<=id&&T.contains id)=true/\(T.filter (· <base)).length<=base/\
 R (pick hp (Pa T) T) (d.Ek (Pa T))
def UZ(h0:List Nat)(hp:Hp)(d:D)(R:Hp->D->Prop):Prop:=
 P9 h0 hp d R∨Fu hp d λ d' h'=>P9 h0 h' d' R
def Bcz(P:Program)(fn:Func)(h0:List Nat)(R:Hp->D->Prop):Exit->St->Prop
 | .normal,st | .ret,st=>VM P st fn.results.toList λ ds=>UZ h0 st.hp (XJ ds) R
 | _,_=>False
section
variable {P:Program} {c:Ctx} {st:St} {a:Act} {w:World} {F:Nat->Prop} {M:Nat->Mb}
theorem W6:∀(ds:List D) (k t:Nat) (d:D),get (SM k ds) t=some d->k<=t/\ds[t - k]?=some d
 | [],k,t,d,h=>by simp[SM,get] at h
 | x::r,k,t,d,h=>by
   simp only[SM,Cw] at h;split at h
   . rename_i e;cases h;subst e;exact ⟨Ai _,by simp⟩
   . obtain ⟨h1,h2⟩:=W6 r (k+1) t d h;exact ⟨by omega,by rw[show t - k=(t - (k+1))+1 from by omega];simpa using h2⟩
theorem Rel.start{h:Hp}{args:List D}{vs:Array Value}{n:Nat}(hHR:HR F w M h)(hFl:∀b,F b->b<w.heap.size)(hsb:∀id,sg h id≠none->base<=id)(hd:KA F w M (sg h) args vs.toList)(hn:args.length<=n):
   Rel ⟨w,F,E8 M h,M,sg h⟩ ⟨SM 0 args,h,n⟩ {tmps:=vs++Array.replicate (n - vs.size) undef,defers:=[]} w F M:=by
 have hl:vs.size=args.length:=by simpa using hd.1
 refine ⟨λ t d ht=>?_,by simp;omega,rfl,hHR,⟨rfl,rfl,rfl,Ai _,λ _ _ _=>rfl,λ _ h=>h,λ _ h=> .inl h,hFl,λ _ h=> .inl h,C1.refl _ _,hsb⟩⟩;obtain ⟨_,h2⟩:=W6 args 0 t d ht;have h3:=hd.2 t d (by simpa using h2);have Cv:=(Ao.1 h2).1;have e:(vs++Array.replicate (n - vs.size) undef).getD t undef=vs.toList.getD t undef:=by
   rw[At,Av,Array.getElem?_append,if_pos (by omega),Bj]
 rw[e];exact h3
theorem Pc(hr:Rel c st a w F M):∀(rs:List ResultVar) {k:List D->Prop},VM P st rs k->
   ∃ds vs,k ds/\KA F w M (sg st.hp) ds vs/\(rs.mapM λ | .tmp t=>pure (a.tmps.getD t undef) | .cell q t=>do loadVar t (<-asAddr (a.tmps.getD q undef)):Sem (List Value)).run P w= .ok vs w
 | [],k,h=>⟨[],[],h,⟨rfl,λ i d hd=>by simp at hd⟩,by simp⟩
 | .tmp t::r,k,h=>by
   simp only[VM] at h;obtain ⟨ds,vs,h1,h2,h3⟩:=Pc hr r h;have hd:DR F w M (sg st.hp) ((get st.env t).getD .bad) (a.tmps.getD t undef):=Co hr (.tmp t);refine ⟨_,a.tmps.getD t undef::vs,h1,⟨by simp[h2.1],λ i d S4=>?_⟩,?_⟩
   . cases i with
     | zero=>simp only[List.getElem?_cons_zero,Option.some.injEq] at S4;subst S4;simpa [List.getD] using hd
     | succ i=>simp only[List.getElem?_cons_succ] at S4;simpa [List.getD] using h2.2 i d S4
   . rw[List.mapM_cons,Sem.run_bind,Sem.run_pure,Result.andThen_ok,Sem.run_bind,h3];rfl
 | .cell t T::r,k,h=>by
   simp only[VM] at h;have hd:DR F w M (sg st.hp) ((get st.env t).getD .bad) (a.tmps.getD t undef):=Co hr (.tmp t);obtain ⟨d,v,h4,h5,h6⟩:=Su hr.heap h hd;obtain ⟨ds,vs,h1,h2,h3⟩:=Pc hr r h4;refine ⟨_,v::vs,h1,⟨by simp[h2.1],λ i d S4=>?_⟩,?_⟩
   . cases i with
     | zero=>simp only[List.getElem?_cons_zero,Option.some.injEq] at S4;subst S4;simpa [List.getD] using h5
     | succ i=>simp only[List.getElem?_cons_succ] at S4;simpa [List.getD] using h2.2 i d S4
   . have h7:(do loadVar T (<-asAddr (a.tmps.getD t undef)):Sem Value).run P w= .ok v w:=by
       generalize a.tmps.getD t undef=x at h6;cases x<;>simp[Instr.loadAt,Instr.sureAddr] at h6;rename_i ad;cases ad<;>simp[Instr.sureAddr] at h6
       simpa [asAddr] using h6
     rw[List.mapM_cons,Sem.run_bind,h7,Result.andThen_ok,Sem.run_bind,h3];rfl
theorem Aal{s:Nat->Option Sg}{ds:List D}{vs:List Value}(h:KA F w M s ds vs):DR F w M s (XJ ds) (if hx:vs.toArray.size=1 then vs.toArray[0] else .tuple vs.toArray):=by
 have hl:=h.1;have Dv:ds.length≠1->XJ ds= .Dv ds:=by
   intro Dt;cases ds with
   | nil=>rfl
   | cons d r=>cases r with
     | nil=>simp at Dt
     | cons _ _=>rfl
 by_cases e:ds.length=1
 . obtain ⟨d,rfl⟩:=List.length_eq_one_iff.1 e;obtain ⟨v,rfl⟩:=List.length_eq_one_iff.1 (hl.trans e);have:=h.2 0 d rfl
   simpa [XJ,List.getD] using this
 . rw[Dv e,dif_neg (by simp;omega)];exact .Dv ds vs.toArray (by simpa using hl) (λ i d hd=>by have:=h.2 i d hd;simpa [List.getD,Array.getD_eq_getD_getElem?] using this)
theorem Lc{h:Hp}{ρ:Nat->Option Nat}:∀{T:List Nat} {j:Nat} {o:AO},get (pick h ρ T) j=some o->∃id o2,id∈T/\ρ id=some j/\get h id=some o2/\o=o2.Ek ρ
 | [],j,o,hg=>by simp[pick,get] at hg
 | id::r,j,o,hg=>by
   simp only[pick] at hg;split at hg
   . rename_i o2 k ho hk;rw[Cw] at hg;split at hg
     . rename_i e;subst e;cases hg;exact ⟨id,o2,by simp,hk,ho,rfl⟩
     . obtain ⟨i,o3,h1,h2⟩:=Lc hg;exact ⟨i,o3,by simp[h1],h2⟩
   . obtain ⟨i,o3,h1,h2⟩:=Lc hg;exact ⟨i,o3,by simp[h1],h2⟩
theorem SJ{h:Hp}{ρ:Nat->Option Nat}(Po:∀i i' j,ρ i=some j->ρ i'=some j->i=i'):∀{T:List Nat} {id j:Nat} {o:AO},id∈T->ρ id=some j->get h id=some o->
   get (pick h ρ T) j=some (o.Ek ρ)
 | [],id,j,o,hm,_,_=>by simp at hm
 | x::r,id,j,o,hm,hj,ho=>by
   simp only[pick];by_cases e:x=id
   . subst e;rw[ho,hj];simp[Cw]
   . have hm':id∈r:=by
       rcases AG.1 hm with h1 | h1
       . exact (e h1.symm).elim
       . exact h1
     have ih:=SJ Po hm' hj ho;split
     . rename_i o2 k VB hk;rw[Cw,if_neg (λ e2=>e (Po x id j (by rw[hk,e2]) hj))];exact ih
     . exact ih
theorem Akk{T:List Nat}(hlen:(T.filter (· <base)).length<=base)(i i' j:Nat)(h:Pa T i=some j)(h':Pa T i'=some j):i=i':=by
 unfold Pa at h h';by_cases e1:base<=i<;>by_cases e2:base<=i'
 . rw[if_pos e1] at h;rw[if_pos e2] at h';split at h<;>split at h'<;>simp_all
 . rw[if_pos e1] at h;rw[if_neg e2] at h';obtain ⟨p,rfl,hp⟩:=JP _ _ _ _ h';split at h
   . simp only[Al] at h;have:=(Ao.1 hp).1;omega
   . cases h
 . rw[if_neg e1] at h;rw[if_pos e2] at h';obtain ⟨p,rfl,hp⟩:=JP _ _ _ _ h;split at h'
   . simp only[Al] at h';have:=(Ao.1 hp).1;omega
   . cases h'
 . rw[if_neg e1] at h;rw[if_neg e2] at h';obtain ⟨p,rfl,hp⟩:=JP _ _ _ _ h;obtain ⟨p',e3,hp'⟩:=JP _ _ _ _ h';have:p=p':=by omega
   subst this;rw[hp] at hp';exact (Ac hp')
theorem Pb(hr:Rel c st a w F M){h0:Hp}(hs0:c.s0=sg h0)(hO:∀b,c.O0 b↔E8 c.M0 h0 b){d:D}{v:Value}{R:Hp->D->Prop}(hd:DR F w M (sg st.hp) d v)(h:P9 (h0.map (·.1)) st.hp d R):
   ∃h' r M',R h' r/\HR F w M' h'/\DR F w M' (sg h') r v/\Aq1 c w F M' h':=by
 unfold P9 at h;generalize DY st.hp (h0.map (·.1)++d.ids)=T at h;obtain ⟨hT,DD,h0T,hlen,hR⟩:=h;have Po:=Akk hlen
 let M':Nat->Mb:=λ j=>if base<=j then M j else M ((T.filter (· <base)).getD j 0)
 have hρ:∀id j,Pa T id=some j->id∈T/\M' j=M id:=by
   intro id j hj;unfold Pa at hj;by_cases e:base<=id
   . rw[if_pos e] at hj;split at hj
     . rename_i hm;simp only[Al] at hj;subst hj;exact ⟨hm,by simp only[M',if_pos e]⟩
     . cases hj
   . rw[if_neg e] at hj;obtain ⟨i,rfl,hi⟩:=JP _ _ _ _ hj;have Cv:=(Ao.1 hi).1;refine ⟨(List.mem_filter.1 (AQ hi)).1,?_⟩;simp only[M'];rw[if_neg (by omega),Av,Bf,hi,A5]
 have G7:∀id j,Pa T id=some j->sg st.hp id≠none->M' j=M id/\sg (pick st.hp (Pa T) T) j=sg st.hp id:=by
   intro id j hj hs;obtain ⟨hm,hM⟩:=hρ id j hj;refine ⟨hM,?_⟩;cases ho:get st.hp id with
   | none=>exact (hs (by simp[sg,ho])).elim
   | some o=>
     have:=SJ Po hm hj ho;simp[sg,this,ho,R8]
 have CT:∀b,E8 M' (pick st.hp (Pa T) T) b->E8 M st.hp b:=by
   rintro b ⟨j,o,hj,ho⟩;obtain ⟨id,o2,hm,h1,h2,rfl⟩:=Lc hj;rw[(hρ id j h1).2] at ho;exact ⟨id,o2,h2,(Eo _ _ _ _).1 ho⟩
 refine ⟨_,_,M',hR,?_,hd.Ek G7,?_⟩
 . constructor
   . intro j o hj;obtain ⟨id,o2,hm,h1,h2,rfl⟩:=Lc hj;rw[(hρ id j h1).2];exact (hr.heap.obj id o2 h2).Ek G7
   . intro j o j' o' b hj Hu ho N7;obtain ⟨id,o2,hm,h1,h2,rfl⟩:=Lc hj;obtain ⟨PW,o2',hm',EN,Ij,rfl⟩:=Lc Hu;rw[(hρ id j h1).2] at ho;rw[(hρ PW j' EN).2] at N7;have:=hr.heap.inj id o2 PW o2' b h2 Ij ((Eo _ _ _ _).1 ho) ((Eo _ _ _ _).1 N7);subst this;rw[h1] at EN;exact Ac EN
 . have hk:=hr.CW;have Avp:∀id,sg h0 id≠none->base<=id/\id∈T:=by
     intro id hs;have Fe:id∈h0.map (·.1):=by
       clear hs0 hO h0T hR
       induction h0 with
       | nil=>simp[sg,get] at hs
       | cons q r ih=>
         obtain ⟨k,o⟩:=q;simp only[AH,AG];by_cases e:id=k
         . exact .inl e
         . right;apply ih
           simpa [sg,Cw,Ne.symm e] using hs
     have:=AB.1 h0T id Fe;simp only[As,Au] at this;exact ⟨this.1,by simpa using this.2⟩
   have Ym:∀id,sg h0 id≠none->Pa T id=some id:=λ id hs=>by
     obtain ⟨h1,h2⟩:=Avp id hs;unfold Pa;rw[if_pos h1,if_pos h2]
   refine ⟨hk.os,hk.tape,hk.output,hk.size,hk.N2,hk.F0,hk.Fn,hk.Fl,λ b hb=>hk.own b (CT b hb),?_,hk.s0b⟩;have Hk:=hk.XQ;rw[hs0] at Hk ⊢;refine ⟨λ id hi=>?_,λ id sz n hi=>?_,λ id sz n kk hi=>?_⟩
   . obtain ⟨h1,h2⟩:=Hk.1 id hi;have h3:=G7 id id (Ym id (by rw[hi];simp)) (by rw[h1];simp);exact ⟨by rw[h3.2,h1],by rw[h3.1,h2]⟩
   . obtain ⟨n',h1,EN,h2⟩:=Hk.2.1 id sz n hi;have h3:=G7 id id (Ym id (by rw[hi];simp)) (by rw[h1];simp);exact ⟨n',by rw[h3.2,h1],EN,λ e=>by rw[h3.1,h2 e]⟩
   . obtain ⟨n',k',h1,EN,Avo,h2,Ij⟩:=Hk.2.2 id sz n kk hi;have h3:=G7 id id (Ym id (by rw[hi];simp)) (by rw[h1];simp);exact ⟨n',k',by rw[h3.2,h1],EN,Avo,λ e=>by rw[h3.1];exact h2 e,λ e=>by rw[h3.1];exact Ij e⟩
theorem Ajh{f:FuncId}{fn:Func}{code:Code}{args:List D}{h:Hp}{R:Hp->D->Prop}{Q:Exit->St->Prop}(hf:P.funcs[f]?=some fn)(hb:fn.body=some code)(UE:Enters P f)
   (hn:args.length<=fn.ntmps) (hQ:∀e st,Q e st->Bcz P fn (h.map (·.1)) R e st) (hw:wA P code Q ⟨SM 0 args,h,fn.ntmps⟩):B2 P f args h R:=by
 refine λ vs w F M hHR hFl hsb hd=> .inl ⟨UE vs w,calls_of_wp hf hb (Code.wp_mono ?_ (Hz code (Rel.start hHR hFl hsb hd hn) hw))⟩;rintro e a w' ⟨st,F',M',hq0,hr⟩;have hq:=hQ e st hq0;have key:VM P st fn.results.toList (λ ds=>UZ (h.map (·.1)) st.hp (XJ ds) R)->a.defers=[]/\∃v,(results fn a.tmps).run P w'= .ok v w'/\
     ∃v2 h' r F' M',Ending.returned v=Ending.returned v2/\R h' r/\HR F' w' M' h'/\DR F' w' M' (sg h') r v2/\Aq1 ⟨w,F,E8 M h,M,sg h⟩ w' F' M' h':=by
   intro Kd;obtain ⟨ds,vs2,h1,h2,h3⟩:=Pc hr _ Kd;have hv:=Aal h2;refine ⟨hr.defers,(if hx:vs2.toArray.size=1 then vs2.toArray[0] else .tuple vs2.toArray),?_,?_⟩;rotate_left
   . rcases h1 with h1 | h1
     . obtain ⟨h',r,M2,h4,h5,h6,h7⟩:=Pb hr rfl (λ _=>Iff.rfl) hv h1;exact ⟨_,h',r,F',M2,rfl,h4,h5,h6,h7⟩
     . obtain ⟨d',Ij,F2,h4,HM,hF2,Pm,I4⟩:=PN _ hr hv h1;obtain ⟨h',r,M2,h4,h5,h6,h7⟩:=Pb HM rfl (λ _=>Iff.rfl) I4 h4;exact ⟨_,h',r,F2,M2,rfl,h4,h5,h6,h7⟩
   . unfold results;rw[Sem.run_bind,Array.mapM_eq_mapM_toList,Sem.run_map];refine (congrArg (λ r=>(r.andThen λ a w'=>Result.ok a.toArray w').andThen λ (a:Array Value) w'=>Sem.run P (pure (if h:a.size=1 then a[0] else Value.tuple a)) w') h3).trans ?_;simp
 cases e<;>first
   | exact key hq
   | exact hq.elim
end
end Go.Am
namespace Go.Am
open Go
theorem nd.{u}{α:Sort u}{a b:α}(h:a=b):a=b:=h
def XX(P:Program)(st:St):List ResultVar->Rs (List D)
 | []=> .ret True []
 | .tmp t::r=>(XX P st r).bind λ ds=> .ret True ((get st.env t).getD .bad::ds)
 | .cell t T::r=>(Nf P st.hp T ((get st.env t).getD .bad)).bind λ d=>(XX P st r).bind λ ds=> .ret True (d::ds)
theorem TR{P:Program}{st:St}:∀{rs:List ResultVar} {k:List D->Prop},(XX P st rs).all k->VM P st rs k
 | [],k,h=>h.2
 | .tmp t::r,k,h=>by
   simp only[XX] at h;simp only[VM];exact TR (Ca (λ ds hd=>hd.2) (Ce h))
 | .cell t T::r,k,h=>by
   simp only[XX] at h;simp only[VM];exact WN (Ca (λ d hd=>TR (Ca (λ ds hd=>hd.2) (Ce hd))) (Ce h))
inductive Kt where
 | user (Q:Exit->St->Prop)
 | fin (rs:List ResultVar) (h0:List Nat) (R:Hp->D->Prop)
 | seq (y:Code) (k:Kt)
 | DQ (id:Nat) (k:Kt)
 | lp (x:Code) (n:Nat) (k:Kt)
def Kt.Fv(P:Program):Kt->Exit->St->Prop
 | .user Q=>Q
 | .fin rs h0 R=>λ e st=>match e with
   | .normal | .ret=>(XX P st rs).all λ ds=>UZ h0 st.hp (XJ ds) R
   | _=>False
 | .seq y k=>thn (wA P y (k.Fv P)) (k.Fv P)
 | .DQ id k=>Go.Am.DQ id (k.Fv P)
 | .lp x n k=>thn (Y7 (wA P x) (k.Fv P) n) (k.Fv P)
def X(P:Program)(c:Code)(k:Kt)(st:St):Prop:=wA P c (k.Fv P) st
def J(P:Program)(k:Kt)(e:Exit)(st:St):Prop:=k.Fv P e st
def O(P:Program)(s:Bool)(ops rest:List Oper)(k:Kt)(st:St):Prop:=VF P s ops rest (k.Fv P .normal) st
def L(P:Program)(x:Code)(k:Kt)(n:Nat)(st:St):Prop:=Y7 (wA P x) (k.Fv P) n st
def Af(P:Program)(s:Bool)(ops rest:List Oper)(k:Kt)(o:Oper)(st:St)(r:Rs (D×Hp)):Prop:=
 r.JY (s=true/\OV P o (O P s ops rest k) st) λ x=>O P s ops rest k (({st with hp:=x.2}:St).put o.dst x.1)
def Cl(P:Program)(s:Bool)(ops rest:List Oper)(k:Kt)(o:Oper)(st:St)(r:Rs (FuncId×List D×Hp)):Prop:=
 r.JY (s=true/\OV P o (O P s ops rest k) st) λ x=>L6 (s=true/\OV P o (O P s ops rest k) st) P x.2.2 x.1 x.2.1 (o.dst.getD 0) λ d h'=>O P s ops rest k (({st with hp:=h'}:St).put o.dst d)
def Do(P:Program)(s:Bool)(ops rest:List Oper)(k:Kt)(o:Oper)(st:St):Prop:=Rd P s o (VF P s ops rest (k.Fv P .normal)) st
def Cn(P:Program)(x y:Code)(k:Kt)(st:St)(d:D):Prop:=match d with
 | .p (.bool b)=>XD b (X P x k st) (X P y k st)
 | _=>False
inductive Gv where
 | yes | no | cond (b:Bool) | bad
def Kx(st:St)(ops:List Oper)(g:Option (Nat×Bool)):Gv:=
 match g with
 | none=> .yes
 | some (j,want)=>match ((ops[j]?).bind (·.dst)).bind (get st.env) with
   | some (.p (.bool b))=> .cond (b==want)
   | some (.Dv [])=> .no
   | _=> .bad
def Gu(P:Program)(s:Bool)(ops rest:List Oper)(k:Kt)(o:Oper)(st:St):Gv->Prop
 | .yes=>Do P s ops rest k o st
 | .no=>O P s ops rest k (st.put o.dst (.Dv []))
 | .cond b=>XD b (Do P s ops rest k o st) (O P s ops rest k (st.put o.dst (.Dv [])))
 | .bad=>False
section
variable {P:Program} {s:Bool} {ops rest l:List Oper} {k:Kt} {st:St} {x y:Code} {id i n:Nat} {o:Oper} {dst:Option Nat} {b:Bool}
theorem Aw0:X P .skip k st=J P k .normal st:=nd rfl
theorem Asq:X P (.label i) k st=J P k .normal st:=nd rfl
theorem Azc:X P .ret k st=J P k .ret st:=nd rfl
theorem Aw2:X P (.exit i) k st=J P k (.exit i) st:=nd rfl
theorem Aw1:X P (.goto i) k st=J P k (.goto i) st:=nd rfl
theorem Azb:X P (.seq x y) k st=X P x (.seq y k) st:=nd rfl
theorem Aw3(c:Operand):X P (.cond c x y) k st=Cn P x y k st (ev st c):=nd rfl
theorem Asr:X P (.block id x) k st=X P x (.DQ id k) st:=nd rfl
theorem Apv:X P (.region id l.toArray false) k st=O P true l l k st:=by
 unfold X O;simp[wA]
theorem YL(n:Nat)(h:L P x k n st):X P (.loop x) k st:=⟨n,h⟩
theorem Aw8:L P x k (n+1) st=∃st1,Wk st st1/\X P x (.lp x n k) st1:=nd rfl
theorem YM:J P (.seq y k) .normal st=X P y k st:=nd rfl
theorem Aj8:J P (.seq y k) .ret st=J P k .ret st:=nd rfl
theorem Acy:J P (.seq y k) (.exit i) st=J P k (.exit i) st:=nd rfl
theorem Acx:J P (.seq y k) (.goto i) st=J P k (.goto i) st:=nd rfl
theorem YO:J P (.DQ id k) .normal st=J P k .normal st:=nd rfl
theorem Ajc:J P (.DQ id k) .ret st=J P k .ret st:=nd rfl
theorem Acz:J P (.DQ id k) (.exit i) st=if i=id then J P k .normal st else J P k (.exit i) st:=nd rfl
theorem Aaf:J P (.lp x n k) .normal st=L P x k n st:=nd rfl
theorem Aq3:J P (.lp x n k) .ret st=J P k .ret st:=nd rfl
theorem Aja:J P (.lp x n k) (.exit i) st=J P k (.exit i) st:=nd rfl
theorem Aze:O P s ops [] k st=J P k .normal st:=nd rfl
theorem Aw7:O P s ops (o::rest) k st=Gu P s ops rest k o st (Kx st ops o.guard):=by
 unfold O Gu Kx;simp only[VF,F6];cases o.guard with
 | none=>rfl
 | some g=>
   obtain ⟨j,want⟩:=g;simp only;cases ((ops[j]?).bind (·.dst)).bind (get st.env) with
   | none=>rfl
   | some d=>
     cases d with
     | p q=>cases q<;>rfl
     | Dv cs=>cases cs<;>rfl
     | _=>rfl
theorem Awa:Gu P s ops rest k o st .yes=Do P s ops rest k o st:=nd rfl
theorem Azg:Gu P s ops rest k o st .no=O P s ops rest k (st.put o.dst (.Dv [])):=nd rfl
theorem Ast:Gu P s ops rest k o st (.cond true)=Do P s ops rest k o st:=by simp[Gu]
theorem Aq6:Gu P s ops rest k o st (.cond false)=O P s ops rest k (st.put o.dst (.Dv [])):=by simp[Gu]
theorem Azl:Do P s ops rest k o st=match Dl o.op with
   | some (f,args)=>Cl P s ops rest k o st (Hs st f args)
   | none=>Af P s ops rest k o st (Ky P st o):=by
 unfold Do Rd Cl Af;cases Dl o.op<;>rfl
theorem Awn(p:Prop)(d:D)(h:Hp):Af P s ops rest k o st (.ret p (d,h))=(p/\O P s ops rest k (({st with hp:=h}:St).put o.dst d)):=nd rfl
theorem At2(r r2:Rs (D×Hp)):Af P s ops rest k o st (.split true r r2)=Af P s ops rest k o st r:=by simp[Af,Rs.JY]
theorem Aqd(r r2:Rs (D×Hp)):Af P s ops rest k o st (.split false r r2)=Af P s ops rest k o st r2:=by simp[Af,Rs.JY]
theorem Asz:Cn P x y k st (.p (.bool true))=X P x k st:=by simp[Cn]
theorem Aqb:Cn P x y k st (.p (.bool false))=X P y k st:=by simp[Cn]
theorem Cy(h1:b=true->X P x k st)(h2:b=false->X P y k st):Cn P x y k st (.p (.bool b)):=⟨h1,h2⟩
def Sm(P:Program)(s:Bool)(ops rest:List Oper)(k:Kt)(o:Oper)(st:St):Prop:=s=true/\OV P o (O P s ops rest k) st
def Ck(P:Program)(s:Bool)(ops rest:List Oper)(k:Kt)(dst:Option Nat)(st:St)(f:FuncId)(ds:List D)(h:Hp)(T:List Nat)(S:Prop):Prop:=
 (B2 P f (Iq (idx T base) ds) (sub h (idx T base) base T) λ h' r=>fresh (dst.getD 0) h h'/\O P s ops rest k (({st with hp:=merge T (dst.getD 0) h h'}:St).put dst (r.Ek (back T (dst.getD 0)))))∨S
theorem Awm(p:Prop)(f:FuncId)(ds:List D)(h:Hp):Cl P s ops rest k o st (.ret p (f,ds,h))=
   (p/\(DY h (DB ds)).Nodup/\((DY h (DB ds)).all λ id=>(get h id).isSome)=true/\Ck P s ops rest k o.dst st f ds h (DY h (DB ds)) (Sm P s ops rest k o st)):=nd rfl
def En(P:Program)(h0:List Nat)(R:Hp->D->Prop)(hp:Hp)(r:Rs (List D)):Prop:=r.all λ ds=>UZ h0 hp (XJ ds) R
theorem Ajb(rs:List ResultVar)(h0:List Nat)(R:Hp->D->Prop):J P (.fin rs h0 R) .ret st=En P h0 R st.hp (XX P st rs):=nd rfl
theorem YN(rs:List ResultVar)(h0:List Nat)(R:Hp->D->Prop):J P (.fin rs h0 R) .normal st=En P h0 R st.hp (XX P st rs):=nd rfl
theorem Awl(h0:List Nat)(R:Hp->D->Prop)(hp:Hp)(p:Prop)(ds:List D):En P h0 R hp (.ret p ds)=(p/\UZ h0 hp (XJ ds) R):=nd rfl
theorem Aoq{h0:List Nat}{hp:Hp}{d:D}{R:Hp->D->Prop}(h:P9 h0 hp d R):UZ h0 hp d R:= .inl h
theorem Ai7{h0:List Nat}{hp:Hp}{d:D}{R:Hp->D->Prop}(h:(Db hp d).all λ x=>P9 h0 x.2 x.1 R):UZ h0 hp d R:= .inr (R3 (k:=λ d h=>P9 h0 h d R) h)
theorem B1{f:FuncId}{fn:Func}{code:Code}{args:List D}{h:Hp}{R:Hp->D->Prop}(hf:P.funcs[f]?=some fn)(hb:fn.body=some code)(UE:Enters P f)
   (hn:args.length<=fn.ntmps) (hw:X P code (.fin fn.results.toList (h.map (·.1)) R) ⟨SM 0 args,h,fn.ntmps⟩):B2 P f args h R:=by
 refine Ajh hf hb UE hn (λ e st h1=>?_) hw;cases e<;>first
   | exact TR h1
   | exact h1.elim
theorem B3{x:Int}(h0:-9223372036854775808<=x)(h1:x<=9223372036854775807):IntKind.i64.wrap x=x:=by rw[IntKind.wrap_i64];omega
attribute [go_sem] Aw0 Asq Azc Aw2 Aw1 Azb Aw3 Asr Apv YM Aj8 Acy Acx YO Ajc Acz Aaf Aq3 Aja Aze Aw7 Awa Azg Ast Aq6 Azl Awn At2 Aqd Asz Aqb Awm Ajb YN Awl Kx Dl Hs Ky Kj LP Fo Abm Vk Db GM Vo XN NH Kl TD VQ It QM Vi H2 Ei Ye G6 Yt G9 Ae6 Adh unR Asi Ae7 Nf Ru WE XX Rs.bind Rs.and get ev St.put Cz XJ Jd Ou D.one D.cells D.stored TK.isAgg chunk froze SM GZ LJ DB D.ids ghost RR DY FH I2 AO.ids idx sub Acm
attribute [go_sem] FV Aup TK.Ark D.Alw X4 List.isEmpty_cons List.isEmpty_nil Bool.and_false Bool.false_and Option.some.injEq reduceCtorEq if_true if_false
attribute [go_sem] UW NJ Mk npT D.Z5 List.any_cons List.any_nil Bool.or_self Bool.false_or Bool.or_false Bool.true_or Bool.or_true Bool.false_eq_true
attribute [go_sem] List.getElem?_toArray List.size_toArray true_and and_true Option.getD_some Option.getD_none Nat.zero_add List.map_cons List.map_nil Option.bind_some Option.bind_none List.getElem?_cons_zero List.getElem?_cons_succ List.getElem?_nil List.length_cons List.length_nil List.cons_append List.nil_append List.append_nil List.all_cons List.all_nil Bool.and_self Option.isSome_some List.nodup_nil List.drop_zero List.take_zero List.drop_succ_cons List.take_succ_cons List.drop_nil List.take_nil beq_self_eq_true beq_true beq_false Bool.not_true Bool.not_false Option.map_some Option.map_none Bool.true_and Bool.and_true List.replicate_succ List.replicate_zero ne_eq not_false_eq_true not_true_eq_false and_self
end
end Go.Am
namespace Go.Am
open Go
def OM(o:Op):Bool:=
 match o with
 | .call c=>match c.callee with
   | .builtin .len | .builtin .min | .builtin .max=>true
   | _=>false
 | .alloc _ | .box _ _ | .store _ _ _ | .buildSlice _ _ _ | .makeSlice _ _ _ | .makeMap _ _ | .mapUpdate _ _ _ _=>false
 | _=>true
section
variable {P:Program} {c:Ctx} {st:St} {a:Act} {w:World} {F:Nat->Prop} {M:Nat->Mb}
theorem Ag3(hr:Rel c st a w F M){o:Oper}(hv:OM o.op=true){K:St->Prop}(h:Rd P false o K st):
   ∃d v,K (st.put o.dst d)/\DR F w M (sg st.hp) d v/\(execOp a.eval o).run P w= .ok (.value v) w:=by
 have hn:Dl o.op=none:=by
   cases ho:o.op<;>simp only[ho,OM] at hv<;>simp only[Dl];rename_i cl;cases hc:cl.callee<;>simp only[hc] at hv
   . exact (AJ hv).elim
   . rfl
   . rfl
 unfold Rd at h;rw[hn] at h;simp only at h;rcases D8 h with h | h
 case inr=>exact (AJ h.1).elim
 unfold Ky at h;split at h
 . rename_i cl ho;rw[ho] at hv;split at h
   . rename_i b hb;have hbb:=L8 (k:=λ d h=>K (({st with hp:=h}:St).put o.dst d)) h;simp only[OM,hb] at hv;unfold NM at hbb;generalize hl:cl.args.toList.map (ev st)=l at hbb;split at hbb
     . obtain ⟨xq,IE,rfl⟩:=ZU hl;split at hbb
       case h_2=>exact hbb.elim
       rename_i t ht;obtain ⟨d,v,h1,h2,h3⟩:=Ui (P:=P) hbb (Co hr xq) cl.argTypes o.type ht;exact ⟨d,v,h1,h2,by simp[execOp,ho,hb,resolve,invoke,builtin,IE,h3]⟩
     . simp at hv
     . simp at hv
     . obtain ⟨d,h',v,w',M',hk,J5,hd,DE⟩:=NL hr ho hb (L8 (k:=λ d h=>K (({st with hp:=h}:St).put o.dst d)) h);rename_i k1 x k2 y;obtain ⟨xq,yq,IE,hx,hy⟩:=Iw hl;obtain ⟨rfl,hk⟩:=hbb;have h1:=Co hr xq;have h2:=Co hr yq;rw[hx] at h1;rw[hy] at h2;generalize ME:a.eval xq=vx at h1;generalize hvy:a.eval yq=vy at h2;cases h1 with | p h1=>cases h1;cases h2 with | p h2=>
         cases h2;exact ⟨_,_,hk,.p (.int _ _),by simp[execOp,ho,hb,resolve,invoke,builtin,IE,ME,hvy,run_min_int2]⟩
     . rename_i k1 x k2 y;obtain ⟨xq,yq,IE,hx,hy⟩:=Iw hl;obtain ⟨rfl,hk⟩:=hbb;have h1:=Co hr xq;have h2:=Co hr yq;rw[hx] at h1;rw[hy] at h2;generalize ME:a.eval xq=vx at h1;generalize hvy:a.eval yq=vy at h2;cases h1 with | p h1=>cases h1;cases h2 with | p h2=>
         cases h2;exact ⟨_,_,hk,.p (.int _ _),by simp[execOp,ho,hb,resolve,invoke,builtin,IE,ME,hvy,run_max_int2]⟩
     . exact hbb.elim
   . exact h.elim
 . rename_i ho;rw[ho] at hv;simp[OM] at hv
 . rename_i ho;rw[ho] at hv;simp[OM] at hv
 . rename_i ho;rw[ho] at hv;simp[OM] at hv
 . rename_i ho;rw[ho] at hv;simp[OM] at hv
 . rename_i ho;rw[ho] at hv;simp[OM] at hv
 . rename_i ho;rw[ho] at hv;simp[OM] at hv
 . rename_i ho;rw[ho] at hv;simp[OM] at hv
 . have h1:=Ze (Ca (λ d hd=>hd.2) (Ce h));exact Wm hr h1
end
end Go.Am
namespace Go.Am
open Go
mutual
theorem Rk {ρ:Nat->Option Nat}:∀{d:D},(∀id∈d.ids,ρ id=some id)->d.Ek ρ=d
  | .p _,_=>rfl
  | .agg cs,h=>by simp only[D.Ek];rw[Qa (cs:=cs) h]
  | .Dv cs,h=>by simp only[D.Ek];rw[Qa (cs:=cs) h]
  | .cl _,_=>rfl
  | .cz _,_=>rfl
  | .ref id _ _ _,h=>by simp only[D.Ek];rw[h id (by simp[D.ids])]
  | .ptr id _,h=>by simp only[D.Ek];rw[h id (by simp[D.ids])]
  | .pe _,_=>rfl
  | .ea id _ _ _,h=>by simp only[D.Ek];rw[h id (by simp[D.ids])]
  | .fn f cs,h=>by simp only[D.Ek];rw[Qa (cs:=cs) h]
  | .np,_=>rfl
  | .mv id,h=>by simp only[D.Ek];rw[h id (by simp[D.ids])]
  | .DI id _,h=>by simp only[D.Ek];rw[h id (by simp[D.ids])]
  | .M9 id _ _,h=>by simp only[D.Ek];rw[h id (by simp[D.ids])]
  | .nr id _ _ _,h=>by simp only[D.Ek];rw[h id (by simp[D.ids])]
  | .SW,_=>rfl
  | .bad,_=>rfl
theorem Qa {ρ:Nat->Option Nat}:∀{cs:List D},(∀id∈DB cs,ρ id=some id)->Iq ρ cs=cs
  | [],_=>rfl
  | d::r,h=>by
    simp only[Iq];rw[Rk (d:=d) (λ id hi=>h id (by simp[DB,hi])),Qa (cs:=r) (λ id hi=>h id (by simp[DB,hi]))]
end
def Q8(env:List (Nat×D)):List (Nat×D)->Prop
 | []=>True
 | (t,d)::r=>get env t=some d/\Q8 env r
def C8(h:Hp):Hp->Prop
 | []=>True
 | (id,o)::r=>get h id=some o/\C8 h r
def DO:List (Nat×D)->List Nat
 | []=>[]
 | (_,d)::r=>d.ids++DO r
def Ey:Hp->List Nat
 | []=>[]
 | (_,o)::r=>o.ids++Ey r
def Fa(h1:Hp):Hp->Prop
 | []=>True
 | (id,o)::r=>(base<=id->get h1 id=some o)/\Fa h1 r
def Le(st st1:St):Prop:=
 st1.n=st.n/\Q8 st.env st1.env/\C8 st.hp st1.hp/\((DO st1.env++Ey st1.hp).all λ id=>(get st1.hp id).isSome)=true/\Fa st1.hp st.hp
theorem Q8.spec{env:List (Nat×D)}:∀{e1:List (Nat×D)},Q8 env e1->∀t d,get e1 t=some d->get env t=some d
 | [],_,t,d,h=>by simp[get] at h
 | (k,x)::r,hl,t,d,h=>by
   rw[Cw] at h;split at h
   . rename_i e;subst e;cases h;exact hl.1
   . exact hl.2.spec t d h
theorem C8.spec{h:Hp}:∀{h1:Hp},C8 h h1->∀id o,get h1 id=some o->get h id=some o
 | [],_,t,d,hg=>by simp[get] at hg
 | (k,x)::r,hl,t,d,hg=>by
   rw[Cw] at hg;split at hg
   . rename_i e;subst e;cases hg;exact hl.1
   . exact hl.2.spec t d hg
theorem Fa.spec{h1:Hp}:∀{h:Hp},Fa h1 h->∀id o,base<=id->get h id=some o->get h1 id=some o
 | [],_,t,d,_,hg=>by simp[get] at hg
 | (k,x)::r,hl,t,d,hb,hg=>by
   rw[Cw] at hg;split at hg
   . rename_i e;subst e;cases hg;exact hl.1 hb
   . exact hl.2.spec t d hb hg
theorem UX:∀{env:List (Nat×D)} {t:Nat} {d:D} {id:Nat},get env t=some d->id∈d.ids->id∈DO env
 | [],t,d,id,h,_=>by simp[get] at h
 | (k,x)::r,t,d,id,h,hi=>by
   rw[Cw] at h;simp only[DO,Aw];split at h
   . cases h;exact .inl hi
   . exact .inr (UX h hi)
theorem RL:∀{h:Hp} {j:Nat} {o:AO} {id:Nat},get h j=some o->id∈o.ids->id∈Ey h
 | [],t,d,id,h,_=>by simp[get] at h
 | (k,x)::r,t,d,id,h,hi=>by
   rw[Cw] at h;simp only[Ey,Aw];split at h
   . cases h;exact .inl hi
   . exact .inr (RL h hi)
theorem AO.Rk{ρ:Nat->Option Nat}{o:AO}(h:∀id∈o.ids,ρ id=some id):o.Ek ρ=o:=by
 cases o with
 | box cs ty=>simp only[AO.Ek];rw[Qa (cs:=cs) h]
 | _=>rfl
theorem Wk.refl(st:St):Wk st st:=λ _ _ _ F M h=>⟨F,M,h⟩
theorem Wk.trans{a b c:St}(h:Wk a b)(h':Wk b c):Wk a c:=λ x y w F M hr=>let ⟨F1,M1,h1⟩:=h x y w F M hr;h' x y w F1 M1 h1
theorem Rel.forget{c:Ctx}{st st1:St}{a:Act}{w:World}{F:Nat->Prop}{M:Nat->Mb}(hr:Rel c st a w F M)(h:Le st st1):Rel c st1 a w F M:=by
 have hc:=hr.CW.s0b;obtain ⟨hn,hE,hH,Avf,hK⟩:=h;have ON:∀id,id∈DO st1.env++Ey st1.hp->∃o,get st1.hp id=some o:=λ id hi=>Bt.1 (AB.1 Avf id hi)
 let ρ:Nat->Option Nat:=λ id=>if (get st1.hp id).isSome then some id else none
 have hρ:∀id j,ρ id=some j->sg st.hp id≠none->M j=M id/\sg st1.hp j=sg st.hp id:=by
   intro id j hj _;simp only[ρ] at hj;split at hj
   . rename_i hs;simp only[Al] at hj;subst hj;obtain ⟨o,ho⟩:=Bt.1 hs;refine ⟨rfl,?_⟩;simp[sg,ho,hH.spec _ _ ho]
   . cases hj
 have hid:∀id,(∃o,get st1.hp id=some o)->ρ id=some id:=λ id ⟨o,ho⟩=>by simp[ρ,ho]
 constructor
 . intro t d ht;have:=(hr.env t d (hE.spec t d ht)).Ek (M':=M) hρ;rwa[Rk (λ id hi=>hid id (ON id (BL _ (UX ht hi))))] at this
 . rw[hn];exact hr.size
 . exact hr.defers
 . constructor
   . intro id o ho;have:=(hr.heap.obj id o (hH.spec id o ho)).Ek (M':=M) hρ;rwa[AO.Rk (λ i hi=>hid i (ON i (List.mem_append_right _ (RL ho hi))))] at this
   . intro id o PW o' b ho N7 CT Ez;exact hr.heap.inj id o PW o' b (hH.spec _ _ ho) (hH.spec _ _ N7) CT Ez
 . have hk:=hr.CW;refine ⟨hk.os,hk.tape,hk.output,hk.size,hk.N2,hk.F0,hk.Fn,hk.Fl,?_,?_,hk.s0b⟩
   . rintro b ⟨id,o,ho,CT⟩;exact hk.own _ ⟨id,o,hH.spec _ _ ho,CT⟩
   . have Hk:=hk.XQ;have Cx:∀id,c.s0 id≠none->sg st.hp id≠none->sg st1.hp id=sg st.hp id:=by
       intro id h0 h1;have hb:=hc id h0;cases ho:get st.hp id with
       | none=>exact (h1 (by simp[sg,ho])).elim
       | some o=>simp[sg,ho,hK.spec id o hb ho]
     refine ⟨λ id hi=>?_,λ id sz n hi=>?_,λ id sz n kk hi=>?_⟩
     . obtain ⟨h1,h2⟩:=Hk.1 id hi;exact ⟨by rw[Cx id (by rw[hi];simp) (by rw[h1];simp)];exact h1,h2⟩
     . obtain ⟨n',h1,h2,h3⟩:=Hk.2.1 id sz n hi;exact ⟨n',by rw[Cx id (by rw[hi];simp) (by rw[h1];simp)];exact h1,h2,h3⟩
     . obtain ⟨n',k',h1,h2⟩:=Hk.2.2 id sz n kk hi;exact ⟨n',k',by rw[Cx id (by rw[hi];simp) (by rw[h1];simp)];exact h1,h2⟩
theorem BW{st st1:St}(h:Le st st1):Wk st st1:=λ _ _ _ F M hr=>⟨F,M,hr.forget h⟩
section
variable {P:Program} {st:St} {x:Code} {k:Kt}
theorem Wk.nil{t q sz:Nat}(e:TypeId)(ht:get st.env t=some (.cl []))(hq:get st.hp q=none)(hs:0<sz):Wk st ⟨(t,.ref q 0 0 0)::st.env,(q,.arr e sz [])::st.hp,st.n⟩:=by
 intro c a w F M hr;obtain ⟨HJ,h1⟩:=hr.T6 (e:=e) hq hs;refine ⟨F,_,⟨λ j d hj=>?_,HJ.size,HJ.defers,HJ.heap,HJ.CW⟩⟩;rw[Cw] at hj;split at hj
 . rename_i e1;subst e1;cases hj;have h2:=hr.env _ _ ht;generalize a.tmps.getD t undef=v at h2;cases h2 with | cl _ ad _ _=>exact h1 ad
 . exact HJ.env j d hj
theorem Aj7{st1:St}{n:Nat}(hw:Wk st st1)(h:L P x k n st1):L P x k n st:=by
 cases n with
 | zero=>exact h.elim
 | succ n=>obtain ⟨st2,h1,h2⟩:=h;exact ⟨st2,hw.trans h1,h2⟩
theorem B7{β:Type}(S:β->St)(I:β->Prop)(μ:β->Nat)(b0:β)(h0:I b0)(hw:Wk st (S b0))
   (hs:∀b n,I b->(∀b' st',I b'->μ b'<μ b->Wk st' (S b')->L P x k n st')->X P x (.lp x n k) (S b)):X P (.loop x) k st:=by
 have key:∀n b,I b->μ b<n->L P x k n (S b):=by
   intro n
   induction n with
   | zero=>intro b _ h;exact (A0 _ h).elim
   | succ n ih=>
     intro b hb hm;exact ⟨S b,Wk.refl _,hs b n hb λ b' st' S7 Cv GO=>Aj7 GO (ih b' S7 (by omega))⟩
 exact YL _ (Aj7 hw (key (μ b0+1) b0 h0 (Nat.lt_succ_self _)))
end
end Go.Am
namespace Go.Am
open Go
def Rt(h0:List Nat)(hp:Hp)(d:D)(R:Hp->D->Prop)(T:List Nat):Prop:=
 T.Nodup/\(T.all λ id=>(get hp id).isSome)=true/\(h0.all λ id=>base<=id&&T.contains id)=true/\(T.filter (· <base)).length<=base/\
 R (pick hp (Pa T) T) (d.Ek (Pa T))
theorem Aqw(h0:List Nat)(hp:Hp)(d:D)(R:Hp->D->Prop):P9 h0 hp d R=Rt h0 hp d R (DY hp (h0++d.ids)):=nd rfl
def Ep(h0:List Nat)(R:Hp->D->Prop)(r:Rs (D×Hp)):Prop:=r.all λ x=>P9 h0 x.2 x.1 R
theorem Awk(h0:List Nat)(R:Hp->D->Prop)(p:Prop)(d:D)(h:Hp):Ep h0 R (.ret p (d,h))=(p/\P9 h0 h d R):=nd rfl
theorem BX{h0:List Nat}{hp:Hp}{d:D}{R:Hp->D->Prop}(h:Ep h0 R (Db hp d)):UZ h0 hp d R:=Ai7 h
theorem Cp{h0:List Nat}{hp:Hp}{d:D}{R:Hp->D->Prop}(h:P9 h0 hp d R):UZ h0 hp d R:=Aoq h
theorem Avr(h0:List Nat)(hp:Hp)(x:Pd)(R:Hp->D->Prop):UZ h0 hp (.p x) R=P9 h0 hp (.p x) R:=by
 unfold UZ;simp only[Fu,bor,or_self]
attribute [go_sem] Aqw Awk Avr D.Ek Iq
end Go.Am
end
