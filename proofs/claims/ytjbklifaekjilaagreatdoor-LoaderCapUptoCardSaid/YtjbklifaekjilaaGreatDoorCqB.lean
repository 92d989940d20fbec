/- Texts of this proof, what it rests on, merged: part B. -/
import Derived.LoopN
import Derived.Scope
import Derived.Deep.Quiet
import Derived.Test.YtjbklifaekjilaaGreatDoorCqA
section
set_option linter.unusedVariables false
set_option linter.unusedSimpArgs false
namespace Go.Am
open Go
def bor(h:Hp)(d:D)(k:D->Hp->Prop):Prop:=
 match d with
 | .ref id off len N=>match get h id with
   | some (.arr _ _ es)=>N=es.length/\k (.p (.sl ((es.drop off).take len))) (froze h id)
   | some (.Lo _ es)=>N=es.length/\k (.p (.sl ((es.drop off).take len))) h
   | _=>False
 | .Dk id n=>match get h id with
   | some (.Dj _ _ sz kk rows none)=>n=rows.length/\k (.p (.sl (rows.map λ r=>[.sl r]))) (Co h id (.E4 (Is (.Dj sz rows.length kk))))
   | _=>False
 | .cl es=>k (.p (.sl es)) h
 | d=>k d h
mutual
def E2 (h:Hp) (d:D) (k:D->Hp->Prop):Prop:=
  match d with
  | .agg cs=>PB h cs λ ds h'=>k (.agg ds) h'
  | .De cs=>PB h cs λ ds h'=>k (.De ds) h'
  | d=>bor h d k
def PB:Hp->List D->(List D->Hp->Prop)->Prop
  | h,[],k=>k [] h
  | h,d::r,k=>E2 h d λ x h'=>PB h' r λ xs u9=>k (x::xs) u9
end
def Aj6(P:Program)(h:Hp)(t:TypeId)(x:D)(k:D->Prop):Prop:=
 match Cx P t with
 | some ti=>match ti.k,x with
   | .string,.p (.str l)=>k (.p (.int .i64 l.length))
   | .slice _,.p (.sl es)=>k (.p (.int .i64 es.length))
   | .slice _,.cl es=>k (.p (.int .i64 es.length))
   | .slice _,.ref id _ len N=>(match sg h id with | some (.arr _ m)=>N=m | _=>False)/\k (.p (.int .i64 len))
   | .slice _,.Dk _ n=>k (.p (.int .i64 n))
   | .slice _,.nr _ _ len _=>k (.p (.int .i64 len))
   | .array n _,_=>k (.p (.int .i64 n))
   | _,_=>False
 | none=>False
def Mw(P:Program)(st:St)(q:Nat)(b:Builtin)(ts:Array TypeId)(args:List D)(k:D->Hp->Prop):Prop:=
 match b,args with
 | .len,[x]=>match ts[0]? with
   | some t=>Aj6 P st.hp t x λ d=>k d st.hp
   | none=>False
 | .append,[s,x]=>match ts[0]?,ts[1]? with
   | some t,some t2=>Zw P st.hp q t t2 s x k
   | _,_=>False
 | .copy,[s,x]=>match ts[0]?,ts[1]? with
   | some t,some _=>Ze P st.hp t s x k
   | _,_=>False
 | .min,[.p (.int k1 x),.p (.int k2 y)]=>k1=k2/\k (.p (.int k1 (if y<x then y else x))) st.hp
 | .max,[.p (.int k1 x),.p (.int k2 y)]=>k1=k2/\k (.p (.int k1 (if x<y then y else x))) st.hp
 | _,_=>False
inductive Rs (α:Type) where
 | fail
 | ret (p:Prop) (a:α)
 | split (b:Bool) (x y:Rs α)
def Rs.all{α:Type}:Rs α->(α->Prop)->Prop
 | .fail,_=>False
 | .ret p a,k=>p/\k a
 | .split b x y,k=>VU b (x.all k) (y.all k)
def Rs.and{α:Type}(p:Prop):Rs α->Rs α
 | .fail=> .fail
 | .ret q a=> .ret (p/\q) a
 | .split b x y=> .split b (x.and p) (y.and p)
def Rs.bind{α β:Type}:Rs α->(α->Rs β)->Rs β
 | .fail,_=> .fail
 | .ret p a,f=>(f a).and p
 | .split b x y,f=> .split b (x.bind f) (y.bind f)
theorem VU.mono{b:Bool}{x y x' y':Prop}(h:VU b x y)(hx:x->x')(hy:y->y'):VU b x' y':=⟨λ e=>hx (h.1 e),λ e=>hy (h.2 e)⟩
def Rs.Jg{α:Type}(S:Prop):Rs α->(α->Prop)->Prop
 | .fail,_=>S
 | .ret p a,k=>p/\k a
 | .split b x y,k=>VU b (x.Jg S k) (y.Jg S k)
theorem Rs.FL{α:Type}{S:Prop}{k:α->Prop}:∀{r:Rs α},r.Jg S k->r.all k∨S
 | .fail,h=> .inr h
 | .ret p a,h=> .inl h
 | .split b x y,h=>by
   cases b
   . rcases Rs.FL (h.2 rfl) with h1 | h1
     . exact .inl ⟨λ e=>(AI e).elim,λ _=>h1⟩
     . exact .inr h1
   . rcases Rs.FL (h.1 rfl) with h1 | h1
     . exact .inl ⟨λ _=>h1,λ e=>(AI e.symm).elim⟩
     . exact .inr h1
theorem Rs.Eo{α:Type}{p:Prop}{k:α->Prop}:∀{r:Rs α},(r.and p).all k->p/\r.all k
 | .fail,h=>h.elim
 | .ret q a,h=>⟨h.1.1,h.1.2,h.2⟩
 | .split b x y,h=>by
   have h1:b=true->p/\x.all k:=λ e=>Rs.Eo (h.1 e);have h2:b=false->p/\y.all k:=λ e=>Rs.Eo (h.2 e);refine ⟨?_,λ e=>(h1 e).2,λ e=>(h2 e).2⟩;cases b
   . exact (h2 rfl).1
   . exact (h1 rfl).1
theorem Rs.B7{α:Type}{k k':α->Prop}(hk:∀a,k a->k' a):∀{r:Rs α},r.all k->r.all k'
 | .fail,h=>h.elim
 | .ret q a,h=>⟨h.1,hk _ h.2⟩
 | .split b x y,h=>VU.mono h (Rs.B7 hk) (Rs.B7 hk)
theorem Rs.all_bind{α β:Type}{f:α->Rs β}{k:β->Prop}:∀{r:Rs α},(r.bind f).all k->r.all (λ a=>(f a).all k)
 | .fail,h=>h.elim
 | .ret p a,h=>Rs.Eo h
 | .split b x y,h=>VU.mono h Rs.all_bind Rs.all_bind
def UW(ti:TI)(cs:List D)(off:Nat):Rs D:=
 if ti.k.isAgg then .ret (off+ti.size<=cs.length) (.agg ((cs.drop off).take ti.size))
 else match cs[off]? with
   | some d=> .ret True d
   | none=> .fail
theorem P6{ti:TI}{cs:List D}{off:Nat}{k:D->Prop}(h:(UW ti cs off).all k):Sx ti cs off k:=by
 unfold UW at h;unfold Sx;split at h
 . rename_i e;rw[if_pos e];exact h
 . rename_i e;rw[if_neg e];split at h<;>simp_all [Rs.all]
def P7(ti:TI)(cs:List Pd)(off:Nat):Rs D:=
 if ti.k.isAgg then .ret (off+ti.size<=cs.length) (.agg (((cs.drop off).take ti.size).map D.p))
 else match cs[off]? with
   | some d=> .ret True (.p d)
   | none=> .fail
theorem NR{ti:TI}{cs:List Pd}{off:Nat}{k:D->Prop}(h:(P7 ti cs off).all k):QY ti cs off k:=by
 unfold P7 at h;unfold QY;split at h
 . rename_i e;rw[if_pos e];exact h
 . rename_i e;rw[if_neg e];split at h<;>simp_all [Rs.all]
def L6(P:Program)(h:Hp)(t:TypeId)(d:D):Rs D:=
 match Cx P t,d with
 | some ti,.ptr id off=>match get h id with
   | some (.box cs _)=>UW ti cs off
   | _=> .fail
 | some ti,.pe cs=>P7 ti cs 0
 | some ti,.ea id i c N=>match get h id with
   | some (.arr _ _ es)=>(P7 ti (es.getD i []) c).and (N=es.length)
   | some (.Lo _ es)=>(P7 ti (es.getD i []) c).and (N=es.length)
   | _=> .fail
 | some ti,.Ls id i n=>match get h id with
   | some (.Dj _ _ _ kk rows hole)=> .ret (n=rows.length/\hole≠some i/\ti.k.isAgg=false) (.nr id i (rows.getD i []).length kk)
   | _=> .fail
 | _,_=> .fail
theorem U5{P:Program}{h:Hp}{t:TypeId}{d:D}{k:D->Prop}(hh:(L6 P h t d).all k):U6 P h t d k:=by
 unfold L6 at hh;unfold U6;split at hh
 . rename_i h1;simp only[h1];split at hh
   . rename_i h2;simp only[h2];exact P6 hh
   . exact hh.elim
 . rename_i h1;simp only[h1];exact NR hh
 . rename_i h1;simp only[h1];split at hh
   . rename_i h2;simp only[h2];exact ⟨(Rs.Eo hh).1,NR (Rs.Eo hh).2⟩
   . rename_i h2;simp only[h2];exact ⟨(Rs.Eo hh).1,NR (Rs.Eo hh).2⟩
   . exact hh.elim
 . rename_i h1;simp only[h1];split at hh
   . rename_i h2;simp only[h2];exact hh
   . exact hh.elim
 . exact hh.elim
def Apw(op:BinOp)(x y:D):Rs D:=
 match op,x,y with
 | .add,.p (.int k1 a),.p (.int k2 b)=> .ret (k1=k2) (.p (.int k1 (k1.wrap (a+b))))
 | .sub,.p (.int k1 a),.p (.int k2 b)=> .ret (k1=k2) (.p (.int k1 (k1.wrap (a - b))))
 | .mul,.p (.int k1 a),.p (.int k2 b)=> .ret (k1=k2) (.p (.int k1 (k1.wrap (a*b))))
 | .quo,.p (.int k1 a),.p (.int k2 b)=> .ret (k1=k2/\b≠0) (.p (.int k1 (k1.wrap (a.tdiv b))))
 | .rem,.p (.int k1 a),.p (.int k2 b)=> .ret (k1=k2/\b≠0) (.p (.int k1 (a.tmod b)))
 | .eql,.p (.int k1 a),.p (.int k2 b)=> .ret (k1=k2) (.p (.bool (decide (a=b))))
 | .neq,.p (.int k1 a),.p (.int k2 b)=> .ret (k1=k2) (.p (.bool (!decide (a=b))))
 | .lss,.p (.int k1 a),.p (.int k2 b)=> .ret (k1=k2) (.p (.bool (decide (a<b))))
 | .leq,.p (.int k1 a),.p (.int k2 b)=> .ret (k1=k2) (.p (.bool (decide (a<=b))))
 | .gtr,.p (.int k1 a),.p (.int k2 b)=> .ret (k1=k2) (.p (.bool (decide (b<a))))
 | .geq,.p (.int k1 a),.p (.int k2 b)=> .ret (k1=k2) (.p (.bool (decide (b<=a))))
 | .and,.p (.int k1 a),.p (.int k2 b)=> .ret (k1=k2) (.p (.int k1 (k1.wrap (BitVec.ofInt k1.bits a&&& BitVec.ofInt k1.bits b).toNat)))
 | .shr,.p (.int k1 a),.p (.int _ b)=> .ret (0<=b) (.p (.int k1 (a.fdiv (2 ^ (min b.toNat k1.bits)))))
 | .add,.p (.str a),.p (.str b)=> .ret (a.length+b.length<=maxLen) (.p (.str (a++b)))
 | .eql,.p (.str a),.p (.str b)=> .ret True (.p (.bool (decide (a=b))))
 | .neq,.p (.str a),.p (.str b)=> .ret True (.p (.bool (!decide (a=b))))
 | _,_,_=> .fail
theorem Ams{op:BinOp}{x y:D}{k:D->Prop}(h:(Apw op x y).all k):Apx op x y k:=by
 unfold Apw at h;split at h<;>first
   | exact h.elim
   | exact h
   | exact ⟨h.1.1,h.1.2,h.2⟩
   | exact h.2
def Abs(P:Program)(op:BinOp)(t:TypeId)(x y:D):Rs D:=
 match op,x,y with
 | .eql,.p (.bool a),.p (.bool b)=>(match Cx P t with | some ⟨_,_,.bool,_⟩=> .ret True (.p (.bool (a==b))) | _=> .fail)
 | .neq,.p (.bool a),.p (.bool b)=>(match Cx P t with | some ⟨_,_,.bool,_⟩=> .ret True (.p (.bool (!(a==b)))) | _=> .fail)
 | .eql,.agg xs,.agg ys=>(match Tl P t xs ys with | some b=> .ret True (.p (.bool b)) | none=> .fail)
 | .neq,.agg xs,.agg ys=>(match Tl P t xs ys with | some b=> .ret True (.p (.bool (!b))) | none=> .fail)
 | .eql,.p (.sl es),.cl []=>(match Cx P t with | some ⟨_,_,.slice _,_⟩=> .ret (es≠[]) (.p (.bool false)) | _=> .fail)
 | .eql,.cl es,.cl []=>(match Cx P t with | some ⟨_,_,.slice _,_⟩=> .ret True (.p (.bool es.isEmpty)) | _=> .fail)
 | op,x,y=>Apw op x y
theorem Agv{P:Program}{op:BinOp}{t:TypeId}{x y:D}{k:D->Prop}(h:(Abs P op t x y).all k):Mx P op t x y k:=by
 unfold Abs at h;split at h
 . split at h
   . rename_i h1;simp only[Mx,h1];exact h.2
   . exact h.elim
 . split at h
   . rename_i h1;simp only[Mx,h1];exact h.2
   . exact h.elim
 . split at h
   . rename_i h1;simp only[Mx,h1];exact h.2
   . exact h.elim
 . split at h
   . rename_i h1;simp only[Mx,h1];exact h.2
   . exact h.elim
 . split at h
   . rename_i h1;simp only[Mx,h1];exact h
   . exact h.elim
 . split at h
   . rename_i h1;simp only[Mx,h1];exact h.2
   . exact h.elim
 . rename_i n1 n2 n3 n4 n5 n6;have h2:=Ams h;unfold Mx;split
   . exact (n1 _ _ rfl rfl rfl).elim
   . exact (n2 _ _ rfl rfl rfl).elim
   . exact (n3 _ _ rfl rfl rfl).elim
   . exact (n4 _ _ rfl rfl rfl).elim
   . exact (n5 _ rfl rfl rfl).elim
   . exact (n6 _ rfl rfl rfl).elim
   . exact h2
def unR(op:UnOp)(x:D):Rs D:=
 match op,x with
 | .not,.p (.bool b)=> .ret True (.p (.bool (!b)))
 | .neg,.p (.int kd n)=> .ret True (.p (.int kd (kd.wrap (0 - n))))
 | _,_=> .fail
theorem Anr{op:UnOp}{x:D}{k:D->Prop}(h:(unR op x).all k):unD op x k:=by
 unfold unR at h;split at h<;>first | exact h.elim | exact h.2
def Ab0(c a b:D):Rs D:=
 match c,a,b with
 | .p (.bool t),.p (.bool x),.p (.bool y)=> .ret True (.p (.bool (if t then x else y)))
 | .p (.bool t),a,b=> .split t (.ret True a) (.ret True b)
 | _,_,_=> .fail
theorem Ad2{c x y:D}{k:D->Prop}(h:(Ab0 c x y).all k):X6 c x y k:=by
 unfold Ab0 at h;unfold X6;split at h
 . exact h.2
 . rename_i t a b Dn;split
   . rename_i e1 e2 e3;exact (Dn _ _ rfl rfl).elim
   . rename_i e _;cases e;exact VU.mono h (λ h=>h.2) (λ h=>h.2)
   . rename_i h1 _;exact (h1 _ rfl).elim
 . exact h.elim
def Abr(P:Program)(s d:TypeId)(x:D):Rs D:=
 match Cx P s,Cx P d,x with
 | some _,some ⟨_,_,.int kd,_⟩,.p (.int _ n)=> .ret True (.p (.int kd (kd.wrap n)))
 | some _,some ⟨_,_,.string,_⟩,.p (.str l)=> .ret True (.p (.str l))
 | some ⟨_,_,.slice e,_⟩,some ⟨_,_,.string,_⟩,.p (.sl es)=>match Cx P e,RF es with
   | some ⟨_,_,.int .u8,_⟩,some l=> .ret True (.p (.str l))
   | _,_=> .fail
 | _,_,_=> .fail
theorem Agg{P:Program}{s d:TypeId}{x:D}{k:D->Prop}(h:(Abr P s d x).all k):Zg P s d x k:=by
 unfold Abr at h;unfold Zg;split at h
 . rename_i h1 h2;simp only[h1,h2];exact h.2
 . rename_i h1 h2;simp only[h1,h2];exact h.2
 . rename_i h1 h2;simp only[h1,h2];split at h
   . rename_i h3 h4;simp only[h3,h4];exact h.2
   . exact h.elim
 . exact h.elim
def Aa3(h:Hp)(id N:Nat):Prop:=match sg h id with | some (.arr _ m)=>N=m | _=>False
def GG(P:Program)(t:TypeId)(x:D)(f:Nat)(h:Hp):Rs D:=
 match Cx P t with
 | some ⟨_,_,.struct fs,_⟩=>match fs[f]? with
   | some (o,u)=>match Cx P u with
     | some ti=>match x with
       | .ptr id off=> .ret (ti.size≠0) (.ptr id (off+o))
       | .pe cs=> .ret (ti.size≠0) (.pe (cs.drop o))
       | .ea id i c N=> .ret (ti.size≠0/\Aa3 h id N) (.ea id i (c+o) N)
       | _=> .fail
     | none=> .fail
   | none=> .fail
 | _=> .fail
theorem Ti{P:Program}{t:TypeId}{x:D}{f:Nat}{h:Hp}{k:D->Prop}(hh:(GG P t x f h).all k):Jb P t x f h k:=by
 unfold GG at hh;unfold Jb;split at hh
 . rename_i h1;simp only[h1];split at hh
   . rename_i h2;simp only[h2];split at hh
     . rename_i h3;simp only[h3];split at hh
       . exact hh
       . exact hh
       . exact ⟨hh.1.1,hh.1.2,hh.2⟩
       . exact hh.elim
     . exact hh.elim
   . exact hh.elim
 . exact hh.elim
def WZ(P:Program)(t:TypeId)(x:D)(f:Nat):Rs D:=
 match Cx P t with
 | some ⟨_,_,.struct fs,_⟩=>match fs[f]?,x with
   | some (o,u),.agg cs=>match Cx P u with
     | some ti=>UW ti cs o
     | none=> .fail
   | _,_=> .fail
 | _=> .fail
theorem z6{P:Program}{t:TypeId}{x:D}{f:Nat}{k:D->Prop}(hh:(WZ P t x f).all k):Th P t x f k:=by
 unfold WZ at hh;unfold Th;split at hh
 . rename_i h1;simp only[h1];split at hh
   . rename_i h2;simp only[h2];split at hh
     . rename_i h3;simp only[h3];exact P6 hh
     . exact hh.elim
   . exact hh.elim
 . exact hh.elim
def GD(P:Program)(t:TypeId)(x i:D)(h:Hp):Rs D:=
 match Cx P t,i with
 | some ⟨_,_,.slice e,_⟩,.p (.int _ n)=>match Cx P e with
   | some ti=>match x with
     | .p (.sl es)=> .ret ((0<=n/\n<es.length)/\(es.getD n.toNat []).length=ti.size) (.pe (es.getD n.toNat []))
     | .cl es=> .ret ((0<=n/\n<es.length)/\(es.getD n.toNat []).length=ti.size) (.pe (es.getD n.toNat []))
     | .ref id off len N=>match sg h id with
       | some (.arr sz m)=> .ret ((0<=n/\n<len)/\sz=ti.size/\N=m) (.ea id (off+n.toNat) 0 N)
       | _=> .fail
     | .Dk id N=> .ret ((0<=n/\n<N)/\ti.size=1) (.Ls id n.toNat N)
     | _=> .fail
   | none=> .fail
 | some ⟨_,_,.array m e,_⟩,.p (.int _ n)=>match Cx P e,x with
   | some ti,.ptr id off=> .ret (0<=n/\n<m) (.ptr id (off+n.toNat*ti.size))
   | some ti,.pe cs=> .ret (0<=n/\n<m) (.pe (cs.drop (n.toNat*ti.size)))
   | _,_=> .fail
 | _,_=> .fail
theorem SS{P:Program}{t:TypeId}{x i:D}{h:Hp}{k:D->Prop}(hh:(GD P t x i h).all k):I1 P t x i h k:=by
 unfold GD at hh;unfold I1;split at hh
 . rename_i h1;simp only[h1];split at hh
   . rename_i h2;simp only[h2];split at hh
     . exact ⟨hh.1.1,hh.1.2,hh.2⟩
     . exact ⟨hh.1.1,hh.1.2,hh.2⟩
     . split at hh
       . rename_i h3;simp only[h3];exact ⟨hh.1.1,hh.1.2.1,hh.1.2.2,hh.2⟩
       . exact hh.elim
     . exact ⟨hh.1.1,hh.1.2,hh.2⟩
     . exact hh.elim
   . exact hh.elim
 . rename_i h1;simp only[h1];split at hh
   . rename_i h2;simp only[h2];exact hh
   . rename_i h2;simp only[h2];exact hh
   . exact hh.elim
 . exact hh.elim
def WD(P:Program)(t:TypeId)(x i:D):Rs D:=
 match Cx P t,x,i with
 | some ⟨_,_,.string,_⟩,.p (.str l),.p (.int _ n)=> .ret (0<=n/\n<l.length) (.p (.int .u8 (l.getD n.toNat 0).toNat))
 | some ⟨_,_,.array m e,_⟩,.agg cs,.p (.int _ n)=>match Cx P e with
   | some ti=>(UW ti cs (n.toNat*ti.size)).and (0<=n/\n<m)
   | none=> .fail
 | _,_,_=> .fail
theorem p7{P:Program}{t:TypeId}{x i:D}{k:D->Prop}(hh:(WD P t x i).all k):SR P t x i k:=by
 unfold WD at hh;unfold SR;split at hh
 . rename_i h1;simp only[h1];exact hh
 . rename_i h1;simp only[h1];split at hh
   . rename_i h2;simp only[h2];exact ⟨(Rs.Eo hh).1,P6 (Rs.Eo hh).2⟩
   . exact hh.elim
 . exact hh.elim
def D8(st:St)(o:Option Operand)(W5:Int):Rs Int:=
 match o with
 | none=> .ret True W5
 | some x=>match ev st x with
   | .p (.int _ n)=> .ret True n
   | _=> .fail
theorem Aa9{st:St}{o:Option Operand}{n:Int}{k:Int->Prop}(h:(D8 st o n).all k):E0 st o n k:=by
 unfold D8 at h;unfold E0;split at h
 . exact h.2
 . split at h
   . rename_i h1;simp only[h1];exact h.2
   . exact h.elim
def Ly(n:Nat)(es:List (List Pd)):Prop:=∀e∈es,e.length=n
theorem Ly.get{n:Nat}{es:List (List Pd)}(h:Ly n es):∀(i:Nat) e,es[i]?=some e->e.length=n:=λ _ e he=>h e (AS he)
def HA(P:Program)(st:St)(t:TypeId)(x:D)(lo hi mx:Option Operand):Rs D:=
 match Cx P t,x with
 | some ⟨_,_,.string,_⟩,.p (.str l)=>(D8 st lo 0).bind λ a=>(D8 st hi l.length).bind λ b=>
     .ret (mx.isNone=true/\(0<=a/\a<=b/\b<=l.length)) (.p (.str ((l.take b.toNat).drop a.toNat)))
 | some ⟨_,_,.slice e,_⟩,x=>match Cx P e with
   | some ti=>match x with
     | .p (.sl es)=>match mx with
       | none=>(D8 st lo 0).bind λ a=>(D8 st hi es.length).bind λ b=> .ret ((0<=a/\a<=b/\b<=es.length)/\Ly ti.size es) (.p (.sl ((es.take b.toNat).drop a.toNat)))
       | some m=>(D8 st lo 0).bind λ a=>(D8 st hi es.length).bind λ b=>(D8 st (some m) 0).bind λ c=>
           .ret ((0<=a/\a<=b/\b=c/\c<=es.length)/\Ly ti.size es/\hi.isSome=true) (.cz ((es.take b.toNat).drop a.toNat))
     | .ref id off len N=>match sg st.hp id with
       | some (.arr sz m)=>(D8 st lo 0).bind λ a=>(D8 st hi len).bind λ b=>
           .ret (mx.isNone=true/\sz=ti.size/\(0<=a/\a<=b/\b<=len)/\N=m) (.ref id (off+a.toNat) (b - a).toNat N)
       | _=> .fail
     | _=> .fail
   | none=> .fail
 | _,_=> .fail
theorem bd{st:St}{o:Option Operand}{n:Int}{f:Int->Rs D}{k:D->Prop}{k':Int->Prop}(h:((D8 st o n).bind f).all k)(hf:∀a,(f a).all k->k' a):E0 st o n k':=
 Aa9 (Rs.B7 hf (Rs.all_bind h))
theorem QN{st:St}{o:Option Operand}{n:Int}{q:Prop}{k:Int->Prop}(h:E0 st o n (λ a=>q/\k a)):q/\E0 st o n k:=by
 unfold E0 at*;cases o with
 | none=>exact h
 | some x=>
   simp only at h ⊢;split at h
   . rename_i h1;exact h
   . exact h.elim
theorem Rm{st:St}{o:Option Operand}{n:Int}{k k':Int->Prop}(hk:∀a,k a->k' a)(h:E0 st o n k):E0 st o n k':=by
 unfold E0 at*;split at h
 . exact hk _ h
 . split at h
   . exact hk _ h
   . exact h.elim
theorem Z6{P:Program}{st:St}{t:TypeId}{x:D}{lo hi mx:Option Operand}{k:D->Prop}(hh:(HA P st t x lo hi mx).all k):Sd P st t x lo hi mx k:=by
 unfold HA at hh;unfold Sd;split at hh
 . rename_i h1;simp only[h1];refine QN (bd hh λ a h=>QN (bd h λ b h=>?_));exact ⟨h.1.1,h.1.2,h.2⟩
 . rename_i h1;split at hh
   case h_2=>exact hh.elim
   rename_i h2;split at hh
   . rw[h1];simp only[h2];split at hh
     . exact bd hh λ a h=>bd h λ b h=>⟨h.1.1,h.1.2.get,h.2⟩
     . exact bd hh λ a h=>bd h λ b h=>bd h λ c h=>⟨h.1.1,h.1.2.1.get,h.1.2.2,h.2⟩
   . rw[h1];simp only[h2];split at hh
     . rename_i h3;simp only[h3];have h4:=bd hh λ a h=>bd h λ b h=>(⟨h.1.1,h.1.2.1,h.1.2.2.1,h.1.2.2.2,h.2⟩:mx.isNone=true/\_/\_/\_/\_);have h5:=QN (Rm (λ a h=>QN h) h4);have h6:=QN (Rm (λ a h=>QN h) h5.2);exact ⟨h5.1,h6.1,h6.2⟩
     . exact hh.elim
   . exact hh.elim
 . exact hh.elim
def TE(P:Program)(st:St)(t:TypeId)(parts:List (Nat×Operand)):Rs D:=
 match Cx P t with
 | some ⟨_,_,.struct fs,z⟩=>
   match KQ P fs,z with
   | some pl,.agg zs=>match Gt (λ i=>pl[i]?) zs (parts.map λ q=>(q.1,ev st q.2)) with
     | some cs=> .ret True (.agg cs)
     | none=> .fail
   | _,_=> .fail
 | some ⟨_,_,.array _ e,z⟩=>
   match Cx P e,z with
   | some ti,.agg zs=>match Gt (λ i=>some (i*ti.size,ti.size)) zs (parts.map λ q=>(q.1,ev st q.2)) with
     | some cs=> .ret True (.agg cs)
     | none=> .fail
   | _,_=> .fail
 | _=> .fail
theorem Aa7{P:Program}{st:St}{t:TypeId}{parts:List (Nat×Operand)}{k:D->Prop}(hh:(TE P st t parts).all k):TF P st t parts k:=by
 unfold TE at hh;unfold TF;split at hh
 . rename_i h1;simp only[h1];split at hh
   . rename_i h2;simp only[h2];split at hh
     . rename_i h3;simp only[h3];exact hh.2
     . exact hh.elim
   . exact hh.elim
 . rename_i h1;simp only[h1];split at hh
   . rename_i h2;simp only[h2];split at hh
     . rename_i h3;simp only[h3];exact hh.2
     . exact hh.elim
   . exact hh.elim
 . exact hh.elim
def Pl(x:D)(i:Nat):Rs D:=
 match x with
 | .De cs=>match cs[i]? with
   | some d=> .ret True d
   | none=> .fail
 | _=> .fail
theorem W1{x:D}{i:Nat}{k:D->Prop}(hh:(Pl x i).all k):Mn x i k:=by
 unfold Pl at hh;unfold Mn;split at hh
 . split at hh
   . rename_i h1;simp only[h1];exact hh.2
   . exact hh.elim
 . exact hh.elim
def KV(P:Program)(h:Hp)(t:TypeId)(x i:D)(ok:Bool):Rs D:=
 match mapOf P t,x,i with
 | some (kk,z),.mv id,.p key=>match get h id with
   | some (.mp l)=> .ret (kk.fit key=true/\Qd key l) (EC z ok (SF key l))
   | _=> .fail
 | _,_,_=> .fail
theorem Ye{P:Program}{h:Hp}{t:TypeId}{x i:D}{ok:Bool}{k:D->Prop}(hh:(KV P h t x i ok).all k):OV P h t x i ok k:=by
 unfold KV at hh;unfold OV;split at hh
 . rename_i h0;simp only[h0];split at hh
   . rename_i h1;simp only[h1];exact hh
   . exact hh.elim
 . exact hh.elim
def JK(P:Program)(h:Hp)(t:TypeId)(m i v:D):Rs Hp:=
 match mapOf P t,m,i,v with
 | some (kk,_),.mv id,.p key,.p x=>match get h id with
   | some (.mp l)=> .ret (kk.fit key=true/\Qd key l/\x.flat=true) (Co h id (.mp (Ka key x l)))
   | _=> .fail
 | _,_,_,_=> .fail
theorem l7{P:Program}{h:Hp}{t:TypeId}{m i v:D}{k:Hp->Prop}(hh:(JK P h t m i v).all k):SH P h t m i v k:=by
 unfold JK at hh;unfold SH;split at hh
 . rename_i h0;simp only[h0];split at hh
   . rename_i h1;simp only[h1];exact hh
   . exact hh.elim
 . exact hh.elim
def JC(P:Program)(st:St)(op:Op):Rs D:=
 match op with
 | .move x | .assign x=> .ret True (ev st x)
 | .pick c a b=>Ab0 (ev st c) (ev st a) (ev st b)
 | .binOp op t x y _=>Abs P op t (ev st x) (ev st y)
 | .unOp op _ x=>unR op (ev st x)
 | .nilCheck x=>match ev st x with
   | .ptr id off=> .ret True (.ptr id off)
   | .pe cs=> .ret True (.pe cs)
   | .ea id i c N=> .ret (Aa3 st.hp id N) (.ea id i c N)
   | _=> .fail
 | .convert s d x=>Abr P s d (ev st x)
 | .build t parts=>TE P st t parts.toList
 | .load t a=>L6 P st.hp t (ev st a)
 | .slice t x lo hi mx=>HA P st t (ev st x) lo hi mx
 | .fieldAddr t x f=>GG P t (ev st x) f st.hp
 | .field t x f=>WZ P t (ev st x) f
 | .indexAddr t x i=>GD P t (ev st x) (ev st i) st.hp
 | .index t x i=>WD P t (ev st x) (ev st i)
 | .extract t i=>Pl (ev st t) i
 | .lookup t x i ok=>KV P st.hp t (ev st x) (ev st i) ok
 | .makeFunc (.func f) first cap=> .ret (first.size=0) (.fn f (cap.toList.map (ev st)))
 | _=> .fail
theorem XL{P:Program}{st:St}{op:Op}{k:D->Prop}(hh:(JC P st op).all k):vOp P st op k:=by
 unfold JC at hh;unfold vOp;split at hh
 . exact hh.2
 . exact hh.2
 . exact Ad2 hh
 . exact Agv hh
 . exact Anr hh
 . split at hh
   . rename_i h1;simp only[h1];exact hh.2
   . rename_i h1;simp only[h1];exact hh.2
   . rename_i h1;simp only[h1];exact hh
   . exact hh.elim
 . exact Agg hh
 . exact Aa7 hh
 . exact U5 hh
 . exact Z6 hh
 . exact Ti hh
 . exact z6 hh
 . exact SS hh
 . exact p7 hh
 . exact W1 hh
 . exact Ye hh
 . exact hh
 . exact hh.elim
def Uc(h:Hp)(d:D):Rs (Pd×Hp):=
 match d with
 | .p x=> .ret True (x,h)
 | .cl es=> .ret True (.sl es,h)
 | .cz es=> .ret True (.sl es,h)
 | .ref id off len N=>match get h id with
   | some (.arr _ _ es)=> .ret (N=es.length) (.sl ((es.drop off).take len),froze h id)
   | some (.Lo _ es)=> .ret (N=es.length) (.sl ((es.drop off).take len),h)
   | _=> .fail
 | .Dk id n=>match get h id with
   | some (.Dj _ _ sz kk rows none)=> .ret (n=rows.length) (.sl (rows.map λ r=>[.sl r]),Co h id (.E4 (Is (.Dj sz rows.length kk))))
   | _=> .fail
 | _=> .fail
theorem Aij{h:Hp}{d:D}{k:Pd->Hp->Prop}(hh:(Uc h d).all (λ x=>k x.1 x.2)):J5 h d k:=by
 unfold Uc at hh;unfold J5;split at hh
 . exact hh.2
 . exact hh.2
 . exact hh.2
 . split at hh
   . rename_i h1;simp only[h1];exact hh
   . rename_i h1;simp only[h1];exact hh
   . exact hh.elim
 . split at hh
   . rename_i h1;simp only[h1];exact hh
   . exact hh.elim
 . exact hh.elim
def HZ:Hp->List D->Rs (List Pd×Hp)
 | h,[]=> .ret True ([],h)
 | h,d::r=>(Uc h d).bind λ x=>(HZ x.2 r).bind λ y=> .ret True (x.1::y.1,y.2)
theorem UU{h:Hp}{d:D}{k k':Pd->Hp->Prop}(hk:∀x h,k x h->k' x h)(hh:J5 h d k):J5 h d k':=by
 unfold J5 at*;cases d with
 | p x=>exact hk _ _ hh
 | cl es=>exact hk _ _ hh
 | cz es=>exact hk _ _ hh
 | ref id off len N=>
   simp only at hh ⊢;split at hh
   . exact ⟨hh.1,hk _ _ hh.2⟩
   . exact ⟨hh.1,hk _ _ hh.2⟩
   . exact hh.elim
 | Dk id n=>
   simp only at hh ⊢;split at hh
   . exact ⟨hh.1,hk _ _ hh.2⟩
   . exact hh.elim
 | _=>exact hh
theorem KO:∀{ds:List D} {h:Hp} {k k':List Pd->Hp->Prop},(∀x h,k x h->k' x h)->Hs h ds k->Hs h ds k'
 | [],h,k,k',hk,hh=>hk _ _ hh
 | d::r,h,k,k',hk,hh=>UU (λ x h' h1=>KO (λ xs u9 h2=>hk _ _ h2) h1) hh
theorem US:∀{ds:List D} {h:Hp} {k:List Pd->Hp->Prop},(HZ h ds).all (λ x=>k x.1 x.2)->Hs h ds k
 | [],h,k,hh=>hh.2
 | d::r,h,k,hh=>by
   simp only[HZ] at hh;exact Aij (Rs.B7 (λ x h1=>US (Rs.B7 (λ y h2=>h2.2) (Rs.all_bind h1))) (Rs.all_bind hh))
theorem NQ{ds:List D}{h:Hp}{K:List Pd×Hp->Prop}(hh:(HZ h ds).all K):Hs h ds (λ x h=>K (x,h)):=US (k:=λ x h=>K (x,h)) hh
def R7(h:Hp)(d:D):Rs (List (List Pd)):=
 match d with
 | .p (.sl ys)=> .ret True ys
 | .p (.str l)=> .ret True (DX l)
 | .cl ys=> .ret True ys
 | .ref id off len N=>match get h id with
   | some (.arr _ _ es)=> .ret (N=es.length) ((es.drop off).take len)
   | some (.Lo _ es)=> .ret (N=es.length) ((es.drop off).take len)
   | _=> .fail
 | _=> .fail
theorem XR{h:Hp}{d:D}{k:List (List Pd)->Prop}(hh:(R7 h d).all k):LH h d k:=by
 unfold R7 at hh;unfold LH;split at hh
 . exact hh.2
 . exact hh.2
 . exact hh.2
 . split at hh
   . rename_i h1;simp only[h1];exact hh
   . rename_i h1;simp only[h1];exact hh
   . exact hh.elim
 . exact hh.elim
def V6{α:Type}:Nat->Rs α->Rs α
 | 0,r=>r
 | _+1,_=> .fail
theorem NF{α:Type}{n:Nat}{r:Rs α}{k:α->Prop}(h:(V6 n r).all k):n=0/\r.all k:=by
 cases n with
 | zero=>exact ⟨rfl,h⟩
 | succ n=>exact h.elim
theorem UE{α:Type}{n:Nat}{r:Rs α}{k:α->Prop}(h0:n=0)(h:r.all k):(V6 n r).all k:=by
 subst h0;exact h
def TN(P:Program)(h:Hp)(q:Nat)(t t2:TypeId)(s x:D):Rs (D×Hp):=
 match Cx P t,Cx P t2 with
 | some ⟨_,_,.slice e,_⟩,some ti2=>match Cx P e with
   | some ti=>(R7 h x).bind λ ys=>match s with
     | .cl es=> .ret ((match ti2.k with | .slice _=>True | .string=>True | _=>False)/\Ly ti.size ys/\0<ti.size/\ti.zero.cells.length=ti.size/\
           get h q=none/\(es=[]∨ys≠[])/\Ly ti.size es/\(es.length+ys.length)*ti.bytes<=140737488355328/\es.length+ys.length<=140737488355328)
         (.ref q 0 (es++ys).length (es++ys).length,(q,.arr e ti.size (es++ys))::h)
     | .cz es=> .ret ((match ti2.k with | .slice _=>True | .string=>True | _=>False)/\Ly ti.size ys/\0<ti.size/\ti.zero.cells.length=ti.size/\
           get h q=none/\ys≠[]/\Ly ti.size es/\(es.length+ys.length)*ti.bytes<=140737488355328/\es.length+ys.length<=140737488355328)
         (.ref q 0 (es++ys).length (es++ys).length,(q,.arr e ti.size (es++ys))::h)
     | .ref id off len N=>V6 off (match get h id with
       | some (.arr e' sz es)=> .ret ((match ti2.k with | .slice _=>True | .string=>True | _=>False)/\Ly ti.size ys/\0<ti.size/\ti.zero.cells.length=ti.size/\
           off=0/\N=es.length/\len=es.length/\e'=e/\sz=ti.size/\(es.length+ys.length)*ti.bytes<=140737488355328/\es.length+ys.length<=140737488355328)
         (.ref id 0 (es++ys).length (es++ys).length,Co h id (.arr e sz (es++ys)))
       | _=> .fail)
     | .nr id i len kk=>match get h id with
       | some (.Dj t3 e' sz k2 rows none)=> .ret ((match ti2.k with | .slice _=>True | .string=>True | _=>False)/\Ly ti.size ys/\0<ti.size/\ti.zero.cells.length=ti.size/\
           (e'=e/\sz=ti.size/\kk=k2/\len=(rows.getD i []).length/\i<rows.length/\get h q=none)/\(len+ys.length)*ti.bytes<=140737488355328/\len+ys.length<=140737488355328)
         (.ref q 0 (rows.getD i []++ys).length (rows.getD i []++ys).length,(q,.arr e sz (rows.getD i []++ys))::Co h id (.Dj t3 e' sz (k2+1) rows (some i)))
       | _=> .fail
     | _=> .fail
   | none=> .fail
 | _,_=> .fail
theorem UF{h:Hp}{d:D}{k k':List (List Pd)->Prop}(hk:∀x,k x->k' x)(hh:LH h d k):LH h d k':=by
 unfold LH at*;split at hh
 . exact hk _ hh
 . exact hk _ hh
 . exact hk _ hh
 . split at hh
   . exact ⟨hh.1,hk _ hh.2⟩
   . exact ⟨hh.1,hk _ hh.2⟩
   . exact hh.elim
 . exact hh.elim
theorem Ahv{h:Hp}{d:D}{q:Prop}{k:List (List Pd)->Prop}(hh:LH h d (λ ys=>q/\k ys)):q/\LH h d k:=by
 unfold LH at*;split at hh
 . exact hh
 . exact hh
 . exact hh
 . split at hh
   . exact ⟨hh.2.1,hh.1,hh.2.2⟩
   . exact ⟨hh.2.1,hh.1,hh.2.2⟩
   . exact hh.elim
 . exact hh.elim
theorem Zv{P:Program}{h:Hp}{q:Nat}{t t2:TypeId}{s x:D}{k:D->Hp->Prop}(hh:(TN P h q t t2 s x).all (λ x=>k x.1 x.2)):Zw P h q t t2 s x k:=by
 unfold TN at hh;unfold Zw;split at hh
 case h_2=>exact hh.elim
 rename_i h1 h2;simp only[h1,h2];split at hh
 case h_2=>exact hh.elim
 rename_i h3;simp only[h3];refine Ahv (UF (λ ys hy=>?_) (XR (Rs.all_bind hh)));split at hy
 . obtain ⟨⟨a1,a2,a3,a4,a5,a6,a7,a8,a9⟩,hk⟩:=hy;exact ⟨a1,a2,a3,a4,a5,a6,a7,a8,a9,hk⟩
 . obtain ⟨⟨a1,a2,a3,a4,a5,a6,a7,a8,a9⟩,hk⟩:=hy;exact ⟨a1,a2,a3,a4,a5,a6,a7,a8,a9,hk⟩
 . have hy:=(NF hy).2;split at hy
   . rename_i h4;obtain ⟨⟨a1,a2,a3,a4,a5,a6,a7,a8,a9,a10,a11⟩,hk⟩:=hy;simp only[h4];exact ⟨a1,a2,a3,a4,a5,a6,a7,a8,a9,a10,a11,hk⟩
   . exact hy.elim
 . split at hy
   . rename_i h4;obtain ⟨⟨a1,a2,a3,a4,a5,a6,a7⟩,hk⟩:=hy;simp only[h4];exact ⟨a1,a2,a3,a4,a5,a6,a7,hk⟩
   . exact hy.elim
 . exact hy.elim
def Fj(h:Hp)(id i n:Nat)(v:D):Rs Hp:=
 match v with
 | .ref q off len N=>match get h q,get h id with
   | some (.arr e2 Ot es),some (.Dj t e sz k2 rows hole)=> .ret (off=0/\e2=e/\Ot=sz/\N=es.length/\len=N/\n=rows.length/\(hole=none∨hole=some i))
       (Co (Co h id (.Dj t e sz (As5 hole k2) (rows.set i es) none)) q (.E4 (Is (.arr sz (es.length+1)))))
   | _,_=> .fail
 | _=> .fail
theorem Ue{h:Hp}{id i n:Nat}{v:D}{k:Hp->Prop}(hh:(Fj h id i n v).all k):L1 h id i n v k:=by
 unfold Fj at hh;unfold L1;split at hh
 . split at hh
   . rename_i h1 h2;simp only[h1,h2];exact hh
   . exact hh.elim
 . exact hh.elim
def JE(P:Program)(h:Hp)(t:TypeId)(a v:D):Rs Hp:=
 match Cx P t with
 | some ti=>match v.stored with
   | some cs=>match a with
     | .ptr id off=>match get h id with
       | some (.box bs ty)=> .ret (cs.length=ti.size/\off+cs.length<=bs.length) (Co h id (.box (bs.take off++cs++bs.drop (off+cs.length)) (Ke ty (bs.take off++cs++bs.drop (off+cs.length)))))
       | _=> .fail
     | .ea id i c N=>(HZ h cs).bind λ y=>match get y.2 id with
       | some (.arr e sz es)=> .ret (cs.length=ti.size/\N=es.length/\c+y.1.length<=sz) (Co y.2 id (.arr e sz (es.set i ((es.getD i []).take c++y.1++(es.getD i []).drop (c+y.1.length)))))
       | _=> .fail
     | .Ls id i n=>(Fj h id i n v).and (cs.length=ti.size)
     | _=> .fail
   | none=> .fail
 | none=> .fail
theorem GK:∀{ds:List D} {h:Hp} {q:Prop} {k:List Pd->Hp->Prop},Hs h ds (λ x h=>q/\k x h)->q/\Hs h ds k
 | [],h,q,k,hh=>hh
 | d::r,h,q,k,hh=>by
   have h1:J5 h d (λ x h'=>q/\Hs h' r λ xs u9=>k (x::xs) u9):=UU (λ x h' h2=>GK h2) hh;simp only[Hs];unfold J5 at h1 ⊢;cases d with
   | p x=>exact h1
   | cl es=>exact h1
   | cz es=>exact h1
   | ref id off len N=>
     simp only at h1 ⊢;split at h1
     . rename_i h2;exact ⟨h1.2.1,h1.1,h1.2.2⟩
     . rename_i h2;exact ⟨h1.2.1,h1.1,h1.2.2⟩
     . exact h1.elim
   | Dk id n=>
     simp only at h1 ⊢;split at h1
     . rename_i h2;exact ⟨h1.2.1,h1.1,h1.2.2⟩
     . exact h1.elim
   | _=>exact h1.elim
theorem Z1{P:Program}{h:Hp}{t:TypeId}{a v:D}{k:Hp->Prop}(hh:(JE P h t a v).all k):R5 P h t a v k:=by
 unfold JE at hh;unfold R5;split at hh
 case h_2=>exact hh.elim
 rename_i h1;simp only[h1];split at hh
 case h_2=>exact hh.elim
 rename_i h2;simp only[h2];split at hh
 . split at hh
   . rename_i h3;simp only[h3];exact ⟨hh.1.1,hh.1.2,hh.2⟩
   . exact hh.elim
 . refine GK (KO (λ x h' hx=>?_) (NQ (Rs.all_bind hh)));simp only at hx;split at hx
   . rename_i h3;simp only[h3];exact ⟨hx.1.1,hx.1.2.1,hx.1.2.2,hx.2⟩
   . exact hx.elim
 . exact ⟨(Rs.Eo hh).1,Ue (Rs.Eo hh).2⟩
 . exact hh.elim
def TK.Aou:TK->Bool
 | .slice _=>true
 | _=>false
def D.Ajd:D->Bool
 | .cl []=>true
 | _=>false
def Wn(ti:TI)(cs:List D):Bool:=ti.k.Aou&&(!cs.isEmpty&&cs.all D.Ajd)
def KU(P:Program)(st:St)(q:Nat)(op:Op):Rs (D×Hp):=
 match op with
 | .alloc t=>match Cx P t with
   | some ti=>match ti.zero.stored with
     | some cs=> .ret (get st.hp q=none) (.ptr q 0,(q,.box cs (npT t cs))::st.hp)
     | none=> .fail
   | none=> .fail
 | .box _ x=>match (ev st x).stored with
   | some cs=> .ret (get st.hp q=none) (.ptr q 0,(q,.box cs)::st.hp)
   | none=> .fail
 | .store t a x=>(JE P st.hp t (ev st a) (ev st x)).bind λ h=> .ret True (.De [],h)
 | .makeMap _ none=> .ret (get st.hp q=none) (.mv q,(q,.mp [])::st.hp)
 | .mapUpdate t m i x=>(JK P st.hp t (ev st m) (ev st i) (ev st x)).bind λ h=> .ret True (.De [],h)
 | .buildSlice t n parts=>match Cx P t with
   | some ⟨_,_,.slice e,_⟩=>match Cx P e with
     | some ti=>match Gt (λ i=>some (i*ti.size,ti.size)) (List.replicate (n*ti.size) .bad) (parts.toList.map λ q=>(q.1,ev st q.2)) with
       | some cs=>if Wn ti cs=true then .fail else (HZ st.hp cs).bind λ y=> .ret (0<ti.size/\n*ti.size<=16777216/\get y.2 q=none) (.ref q 0 n n,(q,.arr e ti.size (chunk ti.size n y.1))::y.2)
       | none=> .fail
     | none=> .fail
   | _=> .fail
 | .makeSlice t l m=>match Cx P t,ev st l,ev st m with
   | some ⟨_,_,.slice e,_⟩,.p (.int _ l),.p (.int _ m)=>match Cx P e with
     | some ti=>if ti.k.Aou=true then .fail else (HZ [] ti.zero.cells).bind λ y=> .ret (0<ti.size/\get st.hp q=none/\(0<=l/\l<=m/\m*ti.bytes<=140737488355328/\m<=140737488355328)/\ti.zero.cells.length=ti.size)
         (.ref q 0 l.toNat l.toNat,(q,.arr e ti.size (List.replicate l.toNat y.1))::st.hp)
     | none=> .fail
   | _,_,_=> .fail
 | _=> .fail
theorem H2{P:Program}{st:St}{q:Nat}{op:Op}{k:D->Hp->Prop}(hh:(KU P st q op).all (λ x=>k x.1 x.2)):mOp P st q op k:=by
 unfold KU at hh;unfold mOp;split at hh
 . split at hh
   . rename_i h1;simp only[h1];split at hh
     . rename_i h2;simp only[h2];exact hh
     . exact hh.elim
   . exact hh.elim
 . split at hh
   . rename_i h2;simp only[h2];exact hh
   . exact hh.elim
 . exact Z1 (Rs.B7 (λ h hx=>hx.2) (Rs.all_bind hh))
 . exact hh
 . exact l7 (Rs.B7 (λ h hx=>hx.2) (Rs.all_bind hh))
 . split at hh
   . rename_i h1;simp only[h1];split at hh
     . rename_i h2;simp only[h2];split at hh
       . rename_i h3;simp only[h3];split at hh
         . exact hh.elim
         have h4:=KO (k':=λ y h=>_/\_/\get h q=none/\k _ _) (λ y h hy=>⟨hy.1.1,hy.1.2.1,hy.1.2.2,hy.2⟩) (NQ (Rs.all_bind hh));have h5:=GK h4;have h6:=GK h5.2;exact ⟨h5.1,h6.1,h6.2⟩
       . exact hh.elim
     . exact hh.elim
   . exact hh.elim
 . split at hh
   . rename_i h1 h2 h3;simp only[h1,h2,h3];split at hh
     . rename_i h4;simp only[h4];split at hh
       . exact hh.elim
       have h5:=KO (k':=λ y h=>_/\_/\_/\_/\k _ _) (λ y h hy=>⟨hy.1.1,hy.1.2.1,hy.1.2.2.1,hy.1.2.2.2,hy.2⟩) (NQ (Rs.all_bind hh));have h6:=GK h5;have h7:=GK h6.2;have h8:=GK h7.2;have h9:=GK h8.2;exact ⟨h6.1,h7.1,h8.1,h9.1,h9.2⟩
     . exact hh.elim
   . exact hh.elim
 . exact hh.elim
def TG(h:Hp)(d:D):Rs (D×Hp):=
 match d with
 | .ref id off len N=>match get h id with
   | some (.arr _ _ es)=> .ret (N=es.length) (.p (.sl ((es.drop off).take len)),froze h id)
   | some (.Lo _ es)=> .ret (N=es.length) (.p (.sl ((es.drop off).take len)),h)
   | _=> .fail
 | .Dk id n=>match get h id with
   | some (.Dj _ _ sz kk rows none)=> .ret (n=rows.length) (.p (.sl (rows.map λ r=>[.sl r])),Co h id (.E4 (Is (.Dj sz rows.length kk))))
   | _=> .fail
 | .cl es=> .ret True (.p (.sl es),h)
 | d=> .ret True (d,h)
theorem El{h:Hp}{d:D}{k:D->Hp->Prop}(hh:(TG h d).all (λ x=>k x.1 x.2)):bor h d k:=by
 cases d with
 | ref id off len N=>
   simp only[TG] at hh;simp only[bor];split at hh
   . exact hh
   . exact hh
   . exact hh.elim
 | Dk id n=>
   simp only[TG] at hh;simp only[bor];split at hh
   . exact hh
   . exact hh.elim
 | cl es=>exact hh.2
 | _=>exact hh.2
mutual
def CT (h:Hp) (d:D):Rs (D×Hp):=
  match d with
  | .agg cs=>(Gi h cs).bind λ x=> .ret True (.agg x.1,x.2)
  | .De cs=>(Gi h cs).bind λ x=> .ret True (.De x.1,x.2)
  | d=>TG h d
def Gi:Hp->List D->Rs (List D×Hp)
  | h,[]=> .ret True ([],h)
  | h,d::r=>(CT h d).bind λ x=>(Gi x.2 r).bind λ y=> .ret True (x.1::y.1,y.2)
end
mutual
theorem M3:∀{d:D} {h:Hp} {k:D->Hp->Prop},(CT h d).all (λ x=>k x.1 x.2)->E2 h d k
  | .agg cs,h,k,hh=>by simp only[CT] at hh;simp only[E2];exact K9 (Rs.B7 (λ x hx=>hx.2) (Rs.all_bind hh))
  | .De cs,h,k,hh=>by simp only[CT] at hh;simp only[E2];exact K9 (Rs.B7 (λ x hx=>hx.2) (Rs.all_bind hh))
  | .p _,h,k,hh=>by simp only[CT] at hh;simp only[E2];exact El hh
  | .cl _,h,k,hh=>by simp only[CT] at hh;simp only[E2];exact El hh
  | .cz _,h,k,hh=>by simp only[CT] at hh;simp only[E2];exact El hh
  | .ref _ _ _ _,h,k,hh=>by simp only[CT] at hh;simp only[E2];exact El hh
  | .ptr _ _,h,k,hh=>by simp only[CT] at hh;simp only[E2];exact El hh
  | .pe _,h,k,hh=>by simp only[CT] at hh;simp only[E2];exact El hh
  | .ea _ _ _ _,h,k,hh=>by simp only[CT] at hh;simp only[E2];exact El hh
  | .fn _ _,h,k,hh=>by simp only[CT] at hh;simp only[E2];exact El hh
  | .np,h,k,hh=>by simp only[CT] at hh;simp only[E2];exact El hh
  | .mv _,h,k,hh=>by simp only[CT] at hh;simp only[E2];exact El hh
  | .Dk _ _,h,k,hh=>by simp only[CT] at hh;simp only[E2];exact El hh
  | .Ls _ _ _,h,k,hh=>by simp only[CT] at hh;simp only[E2];exact El hh
  | .nr _ _ _ _,h,k,hh=>by simp only[CT] at hh;simp only[E2];exact El hh
  | .PU,h,k,hh=>by simp only[CT] at hh;simp only[E2];exact El hh
  | .bad,h,k,hh=>by simp only[CT] at hh;simp only[E2];exact El hh
theorem K9:∀{ds:List D} {h:Hp} {k:List D->Hp->Prop},(Gi h ds).all (λ x=>k x.1 x.2)->PB h ds k
  | [],h,k,hh=>by simp only[Gi] at hh;simp only[PB];exact hh.2
  | d::r,h,k,hh=>by
    simp only[Gi] at hh;simp only[PB];exact M3 (Rs.B7 (λ x h1=>K9 (Rs.B7 (λ y h2=>h2.2) (Rs.all_bind h1))) (Rs.all_bind hh))
end
def n9(P:Program)(h:Hp)(t:TypeId)(x:D):Rs D:=
 match Cx P t with
 | some ti=>match ti.k,x with
   | .string,.p (.str l)=> .ret True (.p (.int .i64 l.length))
   | .slice _,.p (.sl es)=> .ret True (.p (.int .i64 es.length))
   | .slice _,.cl es=> .ret True (.p (.int .i64 es.length))
   | .slice _,.ref id _ len N=> .ret (Aa3 h id N) (.p (.int .i64 len))
   | .slice _,.Dk _ n=> .ret True (.p (.int .i64 n))
   | .slice _,.nr _ _ len _=> .ret True (.p (.int .i64 len))
   | .array n _,_=> .ret True (.p (.int .i64 n))
   | _,_=> .fail
 | none=> .fail
theorem Yg{P:Program}{h:Hp}{t:TypeId}{x:D}{k:D->Prop}(hh:(n9 P h t x).all k):Aj6 P h t x k:=by
 unfold n9 at hh;unfold Aj6;split at hh
 case h_2=>exact hh.elim
 try simp only[*]
 split at hh
 . first | exact hh.2 | (simp only[*];exact hh.2)
 . first | exact hh.2 | (simp only[*];exact hh.2)
 . first | exact hh.2 | (simp only[*];exact hh.2)
 . first | exact hh | (simp only[*];exact hh)
 . first | exact hh.2 | (simp only[*];exact hh.2)
 . first | exact hh.2 | (simp only[*];exact hh.2)
 . first | exact hh.2 | (simp only[*];exact hh.2)
 . exact hh.elim
def Mt(P:Program)(h:Hp)(t:TypeId)(s x:D):Rs (D×Hp):=
 match Cx P t with
 | some ⟨_,_,.slice e,_⟩=>match Cx P e with
   | some ti=>(R7 h x).bind λ ys=>match s with
     | .ref id off len N=>match get h id with
       | some (.arr e' sz es)=> .ret (Ly ti.size ys/\0<ti.size/\N=es.length/\off+len<=N/\sz=ti.size)
           (.p (.int .i64 ((min len ys.length:Nat):Int)),Co h id (.arr e' sz (es.take off++ys.take len++es.drop (off+min len ys.length))))
       | _=> .fail
     | _=> .fail
   | none=> .fail
 | _=> .fail
theorem VK{P:Program}{h:Hp}{t:TypeId}{s x:D}{k:D->Hp->Prop}(hh:(Mt P h t s x).all (λ x=>k x.1 x.2)):Ze P h t s x k:=by
 unfold Mt at hh;unfold Ze;split at hh
 case h_2=>exact hh.elim
 rename_i h1;rw[h1];simp only;split at hh
 case h_2=>exact hh.elim
 rename_i ti h2;rw[h2];simp only;refine UF (λ ys hy=>?_) (XR (Rs.all_bind hh));split at hy
 case h_2=>exact hy.elim
 split at hy
 case h_2=>exact hy.elim
 obtain ⟨⟨g1,g2,g3,g4,g5⟩,g6⟩:=hy;rename_i h3;exact ⟨λ y hy=>g1 y hy,g2,by simp only[h3];exact ⟨g3,g4,g5,g6⟩⟩
def EZ(P:Program)(st:St)(q:Nat)(b:Builtin)(ts:Array TypeId)(args:List D):Rs (D×Hp):=
 match b,args with
 | .len,[x]=>match ts[0]? with
   | some t=>(n9 P st.hp t x).bind λ d=> .ret True (d,st.hp)
   | none=> .fail
 | .append,[s,x]=>match ts[0]?,ts[1]? with
   | some t,some t2=>TN P st.hp q t t2 s x
   | _,_=> .fail
 | .copy,[s,x]=>match ts[0]?,ts[1]? with
   | some t,some _=>Mt P st.hp t s x
   | _,_=> .fail
 | .min,[.p (.int k1 x),.p (.int k2 y)]=> .ret (k1=k2) (.p (.int k1 (if y<x then y else x)),st.hp)
 | .max,[.p (.int k1 x),.p (.int k2 y)]=> .ret (k1=k2) (.p (.int k1 (if x<y then y else x)),st.hp)
 | _,_=> .fail
theorem K7{P:Program}{st:St}{q:Nat}{b:Builtin}{ts:Array TypeId}{args:List D}{k:D->Hp->Prop}(hh:(EZ P st q b ts args).all (λ x=>k x.1 x.2)):
   Mw P st q b ts args k:=by
 unfold EZ at hh;unfold Mw;split at hh
 . split at hh
   . first | exact Yg (Rs.B7 (λ x hx=>hx.2) (Rs.all_bind hh)) | (simp only[*];exact Yg (Rs.B7 (λ x hx=>hx.2) (Rs.all_bind hh)))
   . exact hh.elim
 . split at hh
   . first | exact Zv hh | (simp only[*];exact Zv hh)
   . exact hh.elim
 . split at hh
   . first | exact VK hh | (simp only[*];exact VK hh)
   . exact hh.elim
 . exact hh
 . exact hh
 . exact hh.elim
end Go.Am
namespace Go.Am
open Go
mutual
def D.Ea (ρ:Nat->Option Nat):D->D
  | .p x=> .p x
  | .agg cs=> .agg (HW ρ cs)
  | .De cs=> .De (HW ρ cs)
  | .cl es=> .cl es
  | .cz es=> .cz es
  | .ref id off len N=>match ρ id with | some j=> .ref j off len N | none=> .bad
  | .ptr id off=>match ρ id with | some j=> .ptr j off | none=> .bad
  | .pe cs=> .pe cs
  | .ea id i c N=>match ρ id with | some j=> .ea j i c N | none=> .bad
  | .fn f cap=> .fn f (HW ρ cap)
  | .np=> .np
  | .mv id=>match ρ id with | some j=> .mv j | none=> .bad
  | .Dk id n=>match ρ id with | some j=> .Dk j n | none=> .bad
  | .Ls id i n=>match ρ id with | some j=> .Ls j i n | none=> .bad
  | .nr id i len k=>match ρ id with | some j=> .nr j i len k | none=> .bad
  | .PU=> .PU
  | .bad=> .bad
def HW (ρ:Nat->Option Nat):List D->List D
  | []=>[]
  | d::r=>D.Ea ρ d::HW ρ r
end
def AO.Ea(ρ:Nat->Option Nat):AO->AO
 | .box cs t=> .box (HW ρ cs) t
 | o=>o
mutual
def D.ids:D->List Nat
  | .ref id _ _ _ | .ptr id _ | .ea id _ _ _ | .mv id | .Dk id _ | .Ls id _ _ | .nr id _ _ _=>[id]
  | .agg cs | .De cs | .fn _ cs=>C6 cs
  | _=>[]
def C6:List D->List Nat
  | []=>[]
  | d::r=>D.ids d++C6 r
end
def Fc(T:List Nat):List Nat->List Nat
 | []=>T
 | i::r=>if i∈T then Fc T r else Fc (T++[i]) r
def AO.ids:AO->List Nat
 | .box cs _=>C6 cs
 | _=>[]
def Iq(h:Hp):List Nat->List Nat
 | []=>[]
 | i::r=>(match get h i with | some o=>o.ids | none=>[])++Iq h r
def ghost(h:Hp)(id:Nat):List Nat:=match get h id with
 | some (.C8 _ _)=>[id]
 | _=>[]
def Qz(h:Hp):List Nat:=ghost h base++(ghost h (base+1)++(ghost h (base+2)++ghost h (base+3)))
def DF(h:Hp)(ids:List Nat):List Nat:=
 let t0:=Fc [] ids
 let t1:=Fc t0 (Iq h t0)
 Fc (Fc t1 (Iq h t1)) (Qz h)
def idx:List Nat->Nat->Nat->Option Nat
 | [],_,_=>none
 | x::r,k,id=>if x=id then some k else idx r (k+1) id
def sub(h:Hp)(ρ:Nat->Option Nat):Nat->List Nat->Hp
 | _,[]=>[]
 | k,id::r=>match get h id with
   | some o=>(k,o.Ea ρ)::sub h ρ (k+1) r
   | none=>sub h ρ (k+1) r
def back(T:List Nat)(q j:Nat):Option Nat:=if base<=j then T[j - base]? else some (10000*(j+1)+q)
def merge(T:List Nat)(q:Nat)(h:Hp):Hp->Hp
 | []=>h
 | (j,o)::r=>match back T q j with
   | some id=>Co (merge T q h r) id (o.Ea (back T q))
   | none=>merge T q h r
def fresh(q:Nat)(h:Hp):Hp->Prop
 | []=>True
 | (j,_)::r=>(base<=j∨get h (10000*(j+1)+q)=none)/\fresh q h r
def Enters(P:Program)(f:FuncId):Prop:=∀args w,(callFunc f args).run P w= .ok (.enter f args) w
def An2(P:Program)(f:FuncId)(vs:Array Value)(w:World)(Axc:Ending->World->Prop):Prop:=
 ((callFunc f vs).run P w= .ok (.enter f vs) w/\Calls P f vs w Axc)∨∃v w',(callFunc f vs).run P w= .ok (.value v) w'/\Axc (.returned v) w'
theorem An2.mono{P:Program}{f:FuncId}{vs:Array Value}{w:World}{Q Q':Ending->World->Prop}(h:An2 P f vs w Q)(hq:∀e w',Q e w'->Q' e w'):An2 P f vs w Q':=by
 rcases h with ⟨h1,h2⟩ | ⟨v,w',h1,h2⟩
 . exact .inl ⟨h1,h2.mono hq⟩
 . exact .inr ⟨v,w',h1,hq _ _ h2⟩
def BV(P:Program)(f:FuncId)(args:List D)(h:Hp)(R:Hp->D->Prop):Prop:=
 ∀(vs:Array Value) (w:World) (F:Nat->Prop) (M:Nat->Mb),HR F w M h->(∀b,F b->b<w.heap.size)->(∀id,sg h id≠none->base<=id)->IB F w M (sg h) args vs.toList->
   An2 P f vs w λ e w'=>∃v h' r F' M',e= .returned v/\R h' r/\HR F' w' M' h'/\DR F' w' M' (sg h') r v/\An5 ⟨w,F,Ev M h,M,sg h⟩ w' F' M' h'
@[congr] theorem ACalls_congr{P:Program}{f:FuncId}{args Ara:List D}{h h':Hp}{R:Hp->D->Prop}(e1:args=Ara)(e2:h=h'):BV P f args h R=BV P f Ara h' R:=by rw[e1,e2]
theorem BV.mono{P:Program}{f:FuncId}{args:List D}{h:Hp}{R R':Hp->D->Prop}(hc:BV P f args h R)(hR:∀h' r,R h' r->R' h' r):BV P f args h R':=
 λ vs w F M h1 h2 GZ h3=>(hc vs w F M h1 h2 GZ h3).mono λ _ _ ⟨v,h',r,F',M',h4,h5,h6⟩=>⟨v,h',r,F',M',h4,hR _ _ h5,h6⟩
theorem TU{P:Program}{f:FuncId}{e:Array Value->Sem Value}{args:List D}{h:Hp}{R:Hp->D->Prop}(Dr:∀args w,(callFunc f args).run P w=((e args).run P w).andThen λ v w'=> .ok (.value v) w')
   (hv:∀(vs:Array Value) w F M,IB F w M (sg h) args vs.toList->∃v r,(e vs).run P w= .ok v w/\DR F w M (sg h) r v/\R h r):BV P f args h R:=by
 intro vs w F M Lw Ow Rw hd;obtain ⟨v,r,h1,h2,h3⟩:=hv vs w F M hd;refine .inr ⟨v,w,?_,v,h,r,F,M,rfl,h3,Lw,h2,⟨rfl,rfl,rfl,Ai _,λ _ _ _=>rfl,λ _ h=>h,λ _ h=> .inl h,Ow,λ _ h=> .inl h,CI.refl _ _,Rw⟩⟩;rw[Dr,h1];rfl
def Hy(P:Program)(h:Hp)(f:FuncId)(ds:List D)(q:Nat)(k:D->Hp->Prop):Prop:=
 let T:=DF h (C6 ds)
 T.Nodup/\(T.all λ id=>(get h id).isSome)=true/\
 BV P f (HW (idx T base) ds) (sub h (idx T base) base T) λ h' r=>fresh q h h'/\k (r.Ea (back T q)) (merge T q h h')
def JQ(P:Program)(st:St)(o:Oper):Rs (D×Hp):=
 match o.op with
 | .call c=>match c.callee with
   | .builtin b=>EZ P st (o.dst.getD 0) b c.argTypes (c.args.toList.map (ev st))
   | _=> .fail
 | .alloc _ | .box _ _ | .store _ _ _ | .buildSlice _ _ _ | .makeSlice _ _ _ | .makeMap _ _ | .mapUpdate _ _ _ _=>KU P st (o.dst.getD 0) o.op
 | op=>(JC P st op).bind λ d=> .ret True (d,st.hp)
def GV(st:St)(f:Operand)(args:List Operand):Rs (FuncId×List D×Hp):=
 match ev st f with
 | .fn g cap=>(Gi st.hp (args.map (ev st)++cap)).bind λ x=> .ret True (g,x.1,x.2)
 | _=> .fail
def C4(o:Op):Option (Operand×List Operand):=
 match o with
 | .call c=>match c.callee with
   | .value f=>some (f,c.args.toList)
   | _=>none
 | _=>none
def Good(c:Ctx)(K:St->Prop):Act->World->Prop:=λ a w=>∃st F M,K st/\Rel c st a w F M
def Ny(P:Program)(o:Oper)(K:St->Prop)(st:St):Prop:=
 ∀c a w F M (Q:Exit->Act->World->Prop),Rel c st a w F M->o.wp P a w (Good c K) Q
def K6(S:Prop)(P:Program)(h:Hp)(f:FuncId)(ds:List D)(q:Nat)(k:D->Hp->Prop):Prop:=
 let T:=DF h (C6 ds)
 T.Nodup/\(T.all λ id=>(get h id).isSome)=true/\
 (BV P f (HW (idx T base) ds) (sub h (idx T base) base T) (λ h' r=>fresh q h h'/\k (r.Ea (back T q)) (merge T q h h'))∨S)
theorem QL{S:Prop}{P:Program}{h:Hp}{f:FuncId}{ds:List D}{q:Nat}{k:D->Hp->Prop}(hh:K6 S P h f ds q k):Hy P h f ds q k∨S:=by
 obtain ⟨h1,h2,h3⟩:=hh;rcases h3 with h3 | h3
 . exact .inl ⟨h1,h2,h3⟩
 . exact .inr h3
theorem VO{S:Prop}{P:Program}{h:Hp}{f:FuncId}{ds:List D}{q:Nat}{k:D->Hp->Prop}(hh:Hy P h f ds q k):K6 S P h f ds q k:=⟨hh.1,hh.2.1,.inl hh.2.2⟩
theorem K5{X:Prop}{P:Program}{h:Hp}{f:FuncId}{ds:List D}{q:Nat}{k:D->Hp->Prop}:K6 (false=true/\X) P h f ds q k=Hy P h f ds q k:=
 propext ⟨λ hh=>(QL hh).elim id λ h=>(AI h.1).elim,VO⟩
def PT(P:Program)(s:Bool)(o:Oper)(K:St->Prop)(st:St):Prop:=
 match C4 o.op with
 | some (f,args)=>(GV st f args).Jg (s=true/\Ny P o K st) λ x=>K6 (s=true/\Ny P o K st) P x.2.2 x.1 x.2.1 (o.dst.getD 0) λ d h'=>K (({st with hp:=h'}:St).put o.dst d)
 | none=>(JQ P st o).Jg (s=true/\Ny P o K st) λ x=>K (({st with hp:=x.2}:St).put o.dst x.1)
def Fx(st:St)(ops:List Oper)(g:Option (Nat×Bool))(yes no:Prop):Prop:=
 match g with
 | none=>yes
 | some (j,want)=>match ((ops[j]?).bind (·.dst)).bind (get st.env) with
   | some (.p (.bool b))=>VU (b==want) yes no
   | some (.De [])=>no
   | _=>False
def T5(P:Program)(s:Bool)(ops:List Oper):List Oper->(St->Prop)->St->Prop
 | [],K,st=>K st
 | o::rest,K,st=>Fx st ops o.guard (PT P s o (T5 P s ops rest K) st) (T5 P s ops rest K (st.put o.dst (.De [])))
def thn(K:St->Prop)(Q:Exit->St->Prop):Exit->St->Prop
 | .normal,st=>K st
 | e,st=>Q e st
def Dp(id:Nat)(Q:Exit->St->Prop):Exit->St->Prop
 | .exit N1,st=>if N1=id then Q .normal st else Q (.exit N1) st
 | e,st=>Q e st
def Wk(st st1:St):Prop:=∀c a w F M,Rel c st a w F M->∃F' M',Rel c st1 a w F' M'
def XD(body:(Exit->St->Prop)->St->Prop)(Q:Exit->St->Prop):Nat->St->Prop
 | 0,_=>False
 | n+1,st=>∃st1,Wk st st1/\body (thn (XD body Q n) Q) st1
def QC(c:Ctx)(Q:Exit->St->Prop):Exit->Act->World->Prop:=λ e a w=>∃st F M,Q e st/\Rel c st a w F M
def Atu(P:Program)(x:Code)(Q:Exit->St->Prop)(st:St):Prop:=
 ∀c a w F M,Rel c st a w F M->(Code.scope x).wp P (QC c Q) a w
def Axj(P:Program)(id:Nat)(ops:Array Oper)(Q:Exit->St->Prop)(st:St):Prop:=
 ∀c a w F M,Rel c st a w F M->(Code.region id ops true).wp P (QC c Q) a w
def wA(P:Program):Code->(Exit->St->Prop)->St->Prop
 | .skip,Q,st=>Q .normal st
 | .label _,Q,st=>Q .normal st
 | .ret,Q,st=>Q .ret st
 | .exit id,Q,st=>Q (.exit id) st
 | .goto l,Q,st=>Q (.goto l) st
 | .seq x y,Q,st=>wA P x (thn (wA P y Q) Q) st
 | .cond c x y,Q,st=>match ev st c with
   | .p (.bool b)=>VU b (wA P x Q st) (wA P y Q st)
   | _=>False
 | .block id x,Q,st=>wA P x (Dp id Q) st
 | .loop x,Q,st=>∃n,XD (wA P x) Q n st
 | .scope x,Q,st=>Atu P x Q st
 | .region id ops draw,Q,st=>(draw=false/\T5 P true ops.toList ops.toList (Q .normal) st)∨(draw=true/\Axj P id ops Q st)
 | _,_,_=>False
end Go.Am
namespace Go.Am
open Go
section
variable {P:Program} {c:Ctx} {st:St} {a:Act} {w:World} {F:Nat->Prop} {M:Nat->Mb}
theorem IU(ρ:Nat->Option Nat):∀(cs:List D) (i:Nat),(HW ρ cs)[i]?=(cs[i]?).map (D.Ea ρ)
 | [],i=>by simp[HW]
 | d::r,0=>by simp[HW]
 | d::r,i+1=>by simp[HW,IU ρ r i]
theorem GJ(ρ:Nat->Option Nat):∀cs:List D,(HW ρ cs).length=cs.length
 | []=>rfl
 | d::r=>by simp[HW,GJ ρ r]
theorem DR.Ea{ρ:Nat->Option Nat}{M':Nat->Mb}{s s':Nat->Option Sg}{d:D}{v:Value}(h:DR F w M s d v)
   (hρ:∀id j,ρ id=some j->s id≠none->M' j=M id/\s' j=s id):DR F w M' s' (d.Ea ρ) v:=by
 induction h with
 | p h=>simp only[D.Ea];exact .p h
 | agg cs vs hl _ ih=>
   simp only[D.Ea];refine .agg _ vs (by rw[GJ];exact hl) λ i e he=>?_;rw[IU] at he;cases hc:cs[i]? with
   | none=>rw[hc] at he;cases he
   | some q=>rw[hc] at he;cases he;exact ih i q hc
 | De cs vs hl _ ih=>
   simp only[D.Ea];refine .De _ vs (by rw[GJ];exact hl) λ i e he=>?_;rw[IU] at he;cases hc:cs[i]? with
   | none=>rw[hc] at he;cases he
   | some q=>rw[hc] at he;cases he;exact ih i q hc
 | cl es a h hn=>simp only[D.Ea];exact .cl es a h hn
 | cz es a h=>simp only[D.Ea];exact .cz es a h
 | ref id off len N sz n v hs hN hv h2=>
   simp only[D.Ea];cases hj:ρ id with
   | none=>exact .bad _
   | some j=>
     obtain ⟨h3,h4⟩:=hρ id j hj (by rw[hs];simp);exact .ref j off len N sz n v (by rw[h4,hs]) hN hv (λ e=>by rw[h3];exact h2 e)
 | ptr id off hs=>
   simp only[D.Ea];cases hj:ρ id with
   | none=>exact .bad _
   | some j=>
     obtain ⟨h3,h4⟩:=hρ id j hj (by rw[hs];simp);have:=DR.ptr (F:=F) (w:=w) (M:=M') (s:=s') j off (by rw[h4,hs]);rwa[h3] at this
 | pe cs b off row t fr hF hh hi hp=>simp only[D.Ea];exact .pe cs b off row t fr hF hh hi hp
 | ea id i q N sz n v hs hN hv h2=>
   simp only[D.Ea];cases hj:ρ id with
   | none=>exact .bad _
   | some j=>
     obtain ⟨h3,h4⟩:=hρ id j hj (by rw[hs];simp);exact .ea j i q N sz n v (by rw[h4,hs]) hN hv (λ e=>by rw[h3];exact h2 e)
 | fn f cap vs hl _ ih=>
   simp only[D.Ea];refine .fn f _ vs (by rw[GJ];exact hl) λ i e he=>?_;rw[IU] at he;cases hc:cap[i]? with
   | none=>rw[hc] at he;cases he
   | some q=>rw[hc] at he;cases he;exact ih i q hc
 | np=>simp only[D.Ea];exact .np
 | mv id h1=>
   simp only[D.Ea];cases hj:ρ id with
   | none=>exact .bad _
   | some j=>
     obtain ⟨h3,h4⟩:=hρ id j hj (by rw[h1];simp);rw[<-h3];exact .mv j (by rw[h4,h1])
 | Dk id n sz m k v h1 hN hv h2=>
   simp only[D.Ea];cases hj:ρ id with
   | none=>exact .bad _
   | some j=>
     obtain ⟨h3,h4⟩:=hρ id j hj (by rw[h1];simp);exact .Dk j n sz m k v (by rw[h4,h1]) hN hv (λ e=>by rw[h3];exact h2 e)
 | Ls id i n sz m k b h1 hN hi h2=>
   simp only[D.Ea];cases hj:ρ id with
   | none=>exact .bad _
   | some j=>
     obtain ⟨h3,h4⟩:=hρ id j hj (by rw[h1];simp);exact .Ls j i n sz m k b (by rw[h4,h1]) hN hi (λ e=>by rw[h3];exact h2 e)
 | nr id i len q sz m k v h1 hN hv h2=>
   simp only[D.Ea];cases hj:ρ id with
   | none=>exact .bad _
   | some j=>
     obtain ⟨h3,h4⟩:=hρ id j hj (by rw[h1];simp);exact .nr j i len q sz m k v (by rw[h4,h1]) hN hv (λ e=>by rw[h3];exact h2 e)
 | PU v h=>simp only[D.Ea];exact .PU v h
 | bad v=>simp only[D.Ea];exact .bad v
theorem IB.Ea{ρ:Nat->Option Nat}{M':Nat->Mb}{s s':Nat->Option Sg}{ds:List D}{vs:List Value}(h:IB F w M s ds vs)
   (hρ:∀id j,ρ id=some j->s id≠none->M' j=M id/\s' j=s id):IB F w M' s' (HW ρ ds) vs:=
 ⟨by rw[GJ];exact h.1,λ i d hd=>by
   rw[IU] at hd;cases hc:ds[i]? with
   | none=>rw[hc] at hd;cases hd
   | some q=>rw[hc] at hd;cases hd;exact (h.2 i q hc).Ea hρ⟩
theorem AO.j0(ρ:Nat->Option Nat)(o:AO):(o.Ea ρ).sg=o.sg:=by cases o<;>rfl
theorem AO.Gn(ρ:Nat->Option Nat)(o:AO)(m:Mb)(b:Nat):(o.Ea ρ).FP m b↔o.FP m b:=by cases o<;>exact Iff.rfl
theorem As0(ρ:Nat->Option Nat)(d:D):(d.Ea ρ).WB=d.WB:=by
 cases d with
 | ref id off len N=>simp only[D.Ea];cases ρ id<;>rfl
 | ptr id off=>simp only[D.Ea];cases ρ id<;>rfl
 | ea id i c N=>simp only[D.Ea];cases ρ id<;>rfl
 | mv id=>simp only[D.Ea];cases ρ id<;>rfl
 | Dk id n=>simp only[D.Ea];cases ρ id<;>rfl
 | Ls id i n=>simp only[D.Ea];cases ρ id<;>rfl
 | nr id i n k=>simp only[D.Ea];cases ρ id<;>rfl
 | _=>rfl
theorem Aaw(ρ:Nat->Option Nat):∀cs:List D,(HW ρ cs).any D.WB=cs.any D.WB
 | []=>rfl
 | d::r=>by simp only[HW,List.any_cons,As0,Aaw ρ r]
theorem As1{ρ:Nat->Option Nat}{d:D}(h:d.Ea ρ= .cl []):d= .cl []:=by
 cases d with
 | ref id off len N=>simp only[D.Ea] at h;cases hr:ρ id<;>rw[hr] at h<;>cases h
 | ptr id off=>simp only[D.Ea] at h;cases hr:ρ id<;>rw[hr] at h<;>cases h
 | ea id i c N=>simp only[D.Ea] at h;cases hr:ρ id<;>rw[hr] at h<;>cases h
 | mv id=>simp only[D.Ea] at h;cases hr:ρ id<;>rw[hr] at h<;>cases h
 | Dk id n=>simp only[D.Ea] at h;cases hr:ρ id<;>rw[hr] at h<;>cases h
 | Ls id i n=>simp only[D.Ea] at h;cases hr:ρ id<;>rw[hr] at h<;>cases h
 | nr id i n k=>simp only[D.Ea] at h;cases hr:ρ id<;>rw[hr] at h<;>cases h
 | cl es=>simpa only[D.Ea] using h
 | _=>simp[D.Ea] at h
theorem Nh.Ea{ρ:Nat->Option Nat}{M':Nat->Mb}{s s':Nat->Option Sg}{m:Mb}{o:AO}(h:Nh F w M s m o)
   (hρ:∀id j,ρ id=some j->s id≠none->M' j=M id/\s' j=s id):Nh F w M' s' m (o.Ea ρ):=by
 cases o with
 | box cs ty=>
   obtain ⟨h1,row,t,h2,h3,h4⟩:=h;refine ⟨h1,row,t,h2,by rw[GJ];exact h3,λ j d hd=>?_,λ h5 h6 j hj=>?_⟩
   . rw[IU] at hd;cases hc:cs[j]? with
     | none=>rw[hc] at hd;cases hd
     | some q=>rw[hc] at hd;cases hd;exact ⟨(h4.1 j q hc).1.Ea hρ,(h4.1 j q hc).2⟩
   . refine h4.2 h5 (by rwa[Aaw] at h6) j ?_;rw[IU] at hj;cases hc:cs[j]? with
     | none=>rw[hc] at hj;cases hj
     | some q=>
       rw[hc] at hj;simp only[Bk,Al] at hj;rw[As1 hj]
 | arr t sz es=>exact h
 | Lo sz es=>exact h
 | iter l pos=>exact h
 | C8 g cs=>exact h
 | E4 s=>exact h
 | mp l=>exact h
 | Dj t e sz k rows hole=>exact h
theorem I2:∀(T:List Nat) (k id j:Nat),idx T k id=some j->∃i,j=k+i/\T[i]?=some id
 | [],k,id,j,h=>by simp[idx] at h
 | x::r,k,id,j,h=>by
   simp only[idx] at h;split at h
   . rename_i e;cases h;exact ⟨0,by omega,by simp[e]⟩
   . obtain ⟨i,h1,h2⟩:=I2 r (k+1) id j h;exact ⟨i+1,by omega,by simpa using h2⟩
theorem Abl(h:Hp)(ρ:Nat->Option Nat):∀(T:List Nat) (k j:Nat),get (sub h ρ k T) j=if k<=j then ((T[j - k]?).bind (get h)).map (AO.Ea ρ) else none
 | [],k,j=>by simp[sub,get]
 | id::r,k,j=>by
   have ih:=Abl h ρ r (k+1) j;by_cases e:k=j
   . subst e;simp only[sub,Ai,AL,Nat.sub_self,AK,Aa];cases ho:get h id with
     | some o=>simp[Cb]
     | none=>rw[ih,if_neg (by omega)];simp
   . have:get (sub h ρ k (id::r)) j=get (sub h ρ (k+1) r) j:=by
       simp only[sub];cases ho:get h id with
       | some o=>rw[Cb,if_neg e]
       | none=>rfl
     rw[this,ih];by_cases h2:k+1<=j
     . rw[if_pos h2,if_pos (by omega),show j - k=(j - (k+1))+1 from by omega,List.getElem?_cons_succ]
     . rw[if_neg h2,if_neg (by omega)]
theorem U0{T:List Nat}(h:T.Nodup){i j x:Nat}(hi:T[i]?=some x)(hj:T[j]?=some x):i=j:=by
 have h1:=(An.1 hi);have h2:=(An.1 hj);exact (List.getElem_inj (h₀:=h1.1) (h₁:=h2.1) h).1 (h1.2.trans h2.2.symm)
theorem S9{q:Nat}{h:Hp}:∀{h':Hp},fresh q h h'->∀j o,get h' j=some o->base<=j∨get h (10000*(j+1)+q)=none
 | [],_,j,o,hg=>by simp[get] at hg
 | (k,x)::r,hf,j,o,hg=>by
   rw[Cb] at hg;split at hg
   . rename_i e;subst e;exact hf.1
   . exact S9 hf.2 j o hg
theorem get_merge{T:List Nat}{q:Nat}{h:Hp}:∀{h':Hp} (id:Nat),
   (∃j o,get h' j=some o/\back T q j=some id/\get (merge T q h h') id=some (o.Ea (back T q)))∨
   ((∀j o,get h' j=some o->back T q j≠some id)/\get (merge T q h h') id=get h id)∨¬(∀i j,back T q i=some id->back T q j=some id->(∃o,get h' i=some o)->(∃o,get h' j=some o)->i=j)
 | [],id=> .inr (.inl ⟨λ j o hg=>by simp[get] at hg,rfl⟩)
 | (k,x)::r,id=>by
   by_cases Qr:∀i j,back T q i=some id->back T q j=some id->(∃o,get ((k,x)::r) i=some o)->(∃o,get ((k,x)::r) j=some o)->i=j
   case neg=>exact .inr (.inr Qr)
   by_cases hb:back T q k=some id
   . refine .inl ⟨k,x,by simp[Cb],hb,?_⟩;simp only[merge,hb,CH,AL]
   . have Yw:get (merge T q h ((k,x)::r)) id=get (merge T q h r) id:=by
       simp only[merge];cases hk:back T q k with
       | none=>rfl
       | some N1=>rw[CH,if_neg (λ e=>hb (by rw[hk,e]))]
     have Q9:∀i,(∃o,get r i=some o)->back T q i=some id->∃o,get ((k,x)::r) i=some o:=λ i ⟨o,ho⟩ hbi=>by
       rw[Cb];by_cases e:k=i
       . subst e;exact (hb hbi).elim
       . rw[if_neg e];exact ⟨o,ho⟩
     rcases get_merge (T:=T) (q:=q) (h:=h) (h':=r) id with ⟨j,o,h1,h2,h3⟩ | ⟨h1,h2⟩ | h1
     . refine .inl ⟨j,o,?_,h2,by rw[Yw];exact h3⟩;rw[Cb,if_neg (λ e=>by subst e;exact hb h2)];exact h1
     . refine .inr (.inl ⟨λ j o hg=>?_,by rw[Yw];exact h2⟩);rw[Cb] at hg;split at hg
       . rename_i e;subst e;exact hb
       . exact h1 j o hg
     . exact (h1 λ i j hi hj hoi hoj=>Qr i j hi hj (Q9 i hoi hi) (Q9 j hoj hj)).elim
theorem Rl(hr:Rel c st a w F M){f:FuncId}{ds:List D}{q:Nat}{k:D->Hp->Prop}{vs:Array Value}(hd:IB F w M (sg st.hp) ds vs.toList)(h:Hy P st.hp f ds q k):
   An2 P f vs w λ e w'=>∃v d h' F' M',e= .returned v/\k d h'/\Rel c {st with hp:=h'} a w' F' M'/\DR F' w' M' (sg h') d v:=by
 unfold Hy at h;generalize DF st.hp (C6 ds)=T at h;obtain ⟨hT,DZ,Mi⟩:=h;have Nq:∀id,id∈T->∃o,get st.hp id=some o:=λ id hid=>by
   have:=AB.1 DZ id hid;exact BE.1 this
 have Abg:∀j,get (sub st.hp (idx T base) base T) j=if base<=j then ((T[j - base]?).bind (get st.hp)).map (AO.Ea (idx T base)) else none:=Abl _ _ T base
 have Ajj:∀i id,T[i]?=some id->sg (sub st.hp (idx T base) base T) (base+i)=sg st.hp id:=λ i id hi=>by
   unfold sg;rw[Abg,if_pos (Nat.le_add_right _ _),A4,hi];cases ho:get st.hp id with
   | none=>simp[ho]
   | some o=>simp[ho,AO.j0]
 have hρ:∀id j,idx T base id=some j->sg st.hp id≠none->(λ j=>M (T.getD (j - base) 0)) j=M id/\sg (sub st.hp (idx T base) base T) j=sg st.hp id:=λ id j hj _=>by
   obtain ⟨i,rfl,hi⟩:=I2 T base id j hj;refine ⟨?_,Ajj i id hi⟩;simp only[A4,Ay,hi,AY]
 have r8:∀b,Ev (λ j=>M (T.getD (j - base) 0)) (sub st.hp (idx T base) base T) b->∃(i id:Nat) (o:AO),T[i]?=some id/\get st.hp id=some o/\o.FP (M id) b:=by
   rintro b ⟨j,o,hj,CC⟩;rw[Abg] at hj;split at hj
   case isFalse=>cases hj
   cases hi:T[j - base]? with
   | none=>rw[hi] at hj;simp at hj
   | some id=>
     rw[hi] at hj;simp only[Aa] at hj;cases ho:get st.hp id with
     | none=>rw[ho] at hj;simp at hj
     | some o2=>
       rw[ho] at hj;simp only[Bk,Al] at hj;subst hj;have hM:M (T.getD (j - base) 0)=M id:=by simp only[Ay,hi,AY]
       simp only[hM,AO.Gn] at CC ⊢;exact ⟨j - base,id,o2,hi,ho,CC⟩
 have Lw:HR F w (λ j=>M (T.getD (j - base) 0)) (sub st.hp (idx T base) base T):=by
   have key:∀j o,get (sub st.hp (idx T base) base T) j=some o->∃id o2,T[j - base]?=some id/\base<=j/\get st.hp id=some o2/\o=o2.Ea (idx T base)/\M (T.getD (j - base) 0)=M id:=by
     intro j o hj;rw[Abg] at hj;split at hj
     case isFalse=>cases hj
     rename_i hle;cases hi:T[j - base]? with
     | none=>rw[hi] at hj;simp at hj
     | some id=>
       rw[hi] at hj;simp only[Aa] at hj;cases ho:get st.hp id with
       | none=>rw[ho] at hj;simp at hj
       | some o2=>
         rw[ho] at hj;simp only[Bk,Al] at hj;exact ⟨id,o2,rfl,hle,ho,hj.symm,by simp only[Ay,hi,AY]⟩
   constructor
   . intro j o hj;obtain ⟨id,o2,_,_,ho,rfl,hM⟩:=key j o hj;simp only[hM];exact (hr.heap.obj id o2 ho).Ea hρ
   . intro j o j' o' b hj GW CC Eh;obtain ⟨id,o2,hi,hle,ho,rfl,hM⟩:=key j o hj;obtain ⟨N1,o2',S4,Aw5,MM,rfl,hM'⟩:=key j' o' GW;simp only[hM,hM',AO.Gn] at CC Eh;have:=hr.heap.inj id o2 N1 o2' b ho MM CC Eh;subst this;have:=U0 hT hi S4;omega
 refine (Mi vs w F _ Lw hr.keep.Fl (λ id hid=>by
   by_cases e:base<=id
   . exact e
   . exact (hid (by unfold sg;rw[Abg,if_neg e];rfl)).elim) (hd.Ea hρ)).mono ?_
 rintro e w' ⟨v,h',r,F',M',rfl,⟨u0,hk⟩,Up,At8,hK⟩;refine ⟨v,D.Ea (back T q) r,merge T q st.hp h',F',?_⟩;have GQ:∀j id,back T q j=some id->(∃o,get h' j=some o)->(base<=j/\T[j - base]?=some id)∨(j<base/\get st.hp id=none):=by
   intro j id hb ⟨o,ho⟩;unfold back at hb;by_cases e1:base<=j
   . rw[if_pos e1] at hb;exact .inl ⟨e1,hb⟩
   . rw[if_neg e1] at hb;simp only[Al] at hb;refine .inr ⟨by omega,?_⟩;have:=(S9 u0 j o ho).resolve_left e1;rwa[hb] at this
 have Qr:∀id i j,back T q i=some id->back T q j=some id->(∃o,get h' i=some o)->(∃o,get h' j=some o)->i=j:=by
   intro id i j hi hj hoi hoj;have h1:=GQ i id hi hoi;have h2:=GQ j id hj hoj;rcases h1 with ⟨h1,h3⟩ | ⟨h1,h3⟩<;>rcases h2 with ⟨h2,h4⟩ | ⟨h2,h4⟩
   . have:=U0 hT h3 h4;omega
   . obtain ⟨o,ho⟩:=Nq id (AS h3);rw[h4] at ho;cases ho
   . obtain ⟨o,ho⟩:=Nq id (AS h4);rw[h3] at ho;cases ho
   . unfold back at hi hj;rw[if_neg (by omega)] at hi hj;simp only[Al] at hi hj;omega
 classical
 let M2:Nat->Mb:=λ id=>if hx:∃j,(∃o,get h' j=some o)/\back T q j=some id then M' hx.choose else M id
 have hM2:∀j id,(∃o,get h' j=some o)->back T q j=some id->M2 id=M' j:=by
   intro j id ho hb;have hx:∃j,(∃o,get h' j=some o)/\back T q j=some id:=⟨j,ho,hb⟩;simp only[M2,dif_pos hx];rw[Qr id _ _ hx.choose_spec.2 hb hx.choose_spec.1 ho]
 have u7:∀id,(∀j o,get h' j=some o->back T q j≠some id)->M2 id=M id:=by
   intro id LD;simp only[M2];rw[dif_neg];rintro ⟨j,⟨o,ho⟩,hb⟩;exact LD j o ho hb
 have Ci:∀id,(∃j o,get h' j=some o/\back T q j=some id/\get (merge T q st.hp h') id=some (o.Ea (back T q)))∨
     ((∀j o,get h' j=some o->back T q j≠some id)/\get (merge T q st.hp h') id=get st.hp id):=by
   intro id;rcases get_merge (T:=T) (q:=q) (h:=st.hp) (h':=h') id with h1 | h1 | h1
   . exact .inl h1
   . exact .inr h1
   . exact (h1 (Qr id)).elim
 have hσ:∀j id,back T q j=some id->sg h' j≠none->M2 id=M' j/\sg (merge T q st.hp h') id=sg h' j:=by
   intro j id hb hs;have ho:∃o,get h' j=some o:=by
     cases hg:get h' j with
     | none=>exact (hs (by simp[sg,hg])).elim
     | some o=>exact ⟨o,rfl⟩
   refine ⟨hM2 j id ho hb,?_⟩;rcases Ci id with ⟨j2,o2,h1,h2,h3⟩ | ⟨h1,_⟩
   . have:=Qr id j j2 hb h2 ho ⟨o2,h1⟩;subst this;simp[sg,h1,h3,AO.j0]
   . obtain ⟨o,ho⟩:=ho;exact (h1 j o ho hb).elim
 have Avv:∀id,(∃o,get st.hp id=some o)->id∉T->(∀j o,get h' j=some o->back T q j≠some id):=by
   intro id ⟨o,ho⟩ hid j o2 hj hb;rcases GQ j id hb ⟨o2,hj⟩ with ⟨_,h1⟩ | ⟨_,h1⟩
   . exact hid (AS h1)
   . rw[h1] at ho;cases ho
 have Ajk:∀id o,get st.hp id=some o->id∉T->get (merge T q st.hp h') id=some o/\M2 id=M id:=by
   intro id o ho hid;have LD:=Avv id ⟨o,ho⟩ hid;rcases Ci id with ⟨j,o2,h1,h2,h3⟩ | ⟨_,h2⟩
   . exact (LD j o2 h1 h2).elim
   . exact ⟨by rw[h2,ho],u7 id LD⟩
 have Asq:CI M M2 (sg st.hp) (sg (merge T q st.hp h')):=by
   have hK2:=hK.UM;simp only at hK2;refine ⟨λ id hid=>?_,λ id sz n hid=>?_,λ id sz n kk hid=>?_⟩
   . by_cases Ft:id∈T
     . obtain ⟨i,hi⟩:=A9.1 Ft;obtain ⟨h1,h2⟩:=hK2.1 (base+i) (by rw[Ajj i id hi];exact hid);have hb:back T q (base+i)=some id:=by unfold back;rw[if_pos (Nat.le_add_right _ _),A4];exact hi
       obtain ⟨h3,h4⟩:=hσ _ _ hb (by rw[h1];simp);refine ⟨by rw[h4,h1],?_⟩;rw[h3,h2];simp only[A4,Ay,hi,AY]
     . obtain ⟨o,ho,hso⟩:=Ai1 hid;obtain ⟨h1,h2⟩:=Ajk id _ ho Ft;exact ⟨by simp[sg,h1,hso],by rw[h2]⟩
   . by_cases Ft:id∈T
     . obtain ⟨i,hi⟩:=A9.1 Ft;obtain ⟨n',h1,EO,h2⟩:=hK2.2.1 (base+i) sz n (by rw[Ajj i id hi];exact hid);have hb:back T q (base+i)=some id:=by unfold back;rw[if_pos (Nat.le_add_right _ _),A4];exact hi
       obtain ⟨h3,h4⟩:=hσ _ _ hb (by rw[h1];simp);refine ⟨n',by rw[h4,h1],EO,λ e=>?_⟩;rw[h3,h2 e];simp only[A4,Ay,hi,AY]
     . have:∃o,get st.hp id=some o:=by
         cases hg:get st.hp id with
         | none=>simp[sg,hg] at hid
         | some o=>exact ⟨o,rfl⟩
       obtain ⟨o,ho⟩:=this;obtain ⟨h1,h2⟩:=Ajk id o ho Ft;refine ⟨n,?_,Ai _,λ _=>h2⟩;simp only[sg,h1,ho] at hid ⊢;exact hid
   . by_cases Ft:id∈T
     . obtain ⟨i,hi⟩:=A9.1 Ft;obtain ⟨n',k',h1,EO,Atb,h2,GZ⟩:=hK2.2.2 (base+i) sz n kk (by rw[Ajj i id hi];exact hid);have hb:back T q (base+i)=some id:=by unfold back;rw[if_pos (Nat.le_add_right _ _),A4];exact hi
       obtain ⟨h3,h4⟩:=hσ _ _ hb (by rw[h1];simp);refine ⟨n',k',by rw[h4,h1],EO,Atb,λ e=>?_,λ e=>?_⟩
       . rw[h3];have h5:=h2 e;simp only[A4,Ay,hi,AY] at h5;exact h5
       . rw[h3];have h5:=GZ e;simp only[A4,Ay,hi,AY] at h5;exact h5
     . have:∃o,get st.hp id=some o:=by
         cases hg:get st.hp id with
         | none=>simp[sg,hg] at hid
         | some o=>exact ⟨o,rfl⟩
       obtain ⟨o,ho⟩:=this;obtain ⟨h1,h2⟩:=Ajk id o ho Ft;refine ⟨n,kk,?_,Ai _,Ai _,λ _=>by rw[h2];exact ⟨rfl,rfl⟩,λ _=>by rw[h2]⟩;simp only[sg,h1,ho] at hid ⊢;exact hid
 have Qo:∀id o b,get st.hp id=some o->o.FP (M id) b->id∉T->¬Ev (λ j=>M (T.getD (j - base) 0)) (sub st.hp (idx T base) base T) b:=by
   intro id o b ho CC hid hO;obtain ⟨i,id2,o2,h1,h2,h3⟩:=r8 _ hO;have:=hr.heap.inj id2 o2 id o b h2 ho h3 CC;subst this;exact hid (AS h1)
 have hF:∀b,F b->w'.heap[b]?=w.heap[b]?:=λ b hb=>hK.Lz b (hr.keep.Fl b hb) (λ hO=>by
   obtain ⟨i,id,o,h1,h2,h3⟩:=r8 _ hO;exact hr.heap.IY ⟨id,o,h2,h3⟩ hb)
 have Azn:∀id o b,get st.hp id=some o->o.FP (M id) b->id∉T->¬F' b:=λ id o b ho CC hid hf=>by
   rcases hK.Fn _ hf with h1 | h1 | h1
   . exact hr.heap.IY ⟨id,o,ho,CC⟩ h1
   . exact Qo id o b ho CC hid h1
   . have:=hr.heap.lt ⟨id,o,ho,CC⟩;simp only at h1;omega
 refine ⟨M2,rfl,hk,?_,At8.Ea hσ⟩;have WK:∀id o,get (merge T q st.hp h') id=some o->(∀j o,get h' j=some o->back T q j≠some id)->get st.hp id=some o->id∉T:=by
   intro id o _ LD ho Ft;obtain ⟨i,hi⟩:=A9.1 Ft;have hb:back T q (base+i)=some id:=by unfold back;rw[if_pos (Nat.le_add_right _ _),A4];exact hi
   have hs:sg (sub st.hp (idx T base) base T) (base+i)≠none:=by rw[Ajj i id hi];simp[sg,ho]
   have:∃o,get h' (base+i)=some o:=by
     cases Md:sg (sub st.hp (idx T base) base T) (base+i) with
     | none=>exact (hs Md).elim
     | some s2=>
       cases s2 with
       | box=>
         have h1:=(hK.UM.1 _ Md).1;obtain ⟨o,u6,_⟩:=Ai1 h1;exact ⟨_,u6⟩
       | arr sz n=>
         obtain ⟨n',h1,_⟩:=hK.UM.2.1 _ sz n Md;rcases Arw h1 with ⟨t,es,h2,_⟩ | ⟨es,h2,_⟩ | ⟨_,h2,_⟩
         . exact ⟨_,h2⟩
         . exact ⟨_,h2⟩
         . exact ⟨_,h2⟩
       | Dj sz n kk=>
         obtain ⟨n',k',h1,_⟩:=hK.UM.2.2 _ sz n kk Md;unfold sg at h1;cases s9:get h' (base+i) with
         | none=>rw[s9] at h1;simp at h1
         | some o3=>exact ⟨o3,rfl⟩
   obtain ⟨o2,WJ⟩:=this;exact LD _ o2 WJ hb
 constructor
 . intro t d ht;exact (hr.env t d ht).keep hF hK.F0 Asq
 . exact hr.size
 . exact hr.defers
 . constructor
   . intro id o ho;rcases Ci id with ⟨j,o2,h1,h2,h3⟩ | ⟨h1,h2⟩
     . rw[h3] at ho;cases ho;rw[hM2 j id ⟨o2,h1⟩ h2];exact (Up.obj j o2 h1).Ea hσ
     . have MM:get st.hp id=some o:=by rw[<-h2];exact ho
       have hid:=WK id o ho h1 MM;rw[u7 id h1];exact (hr.heap.obj id o MM).keep hF hK.F0 Asq (λ b CC=>⟨hK.Lz b (hr.heap.lt ⟨id,o,MM,CC⟩) (Qo id o b MM CC hid),Azn id o b MM CC hid⟩)
   . intro id o N1 o' b ho MM CC Eh;have Ar9:∀j oj id2 o2,get h' j=some oj->oj.FP (M' j) b->get st.hp id2=some o2->o2.FP (M id2) b->id2∉T->False:=by
       intro j oj id2 o2 hj Avt h2 Abc Azu;rcases hK.own _ ⟨j,oj,hj,Avt⟩ with h3 | h3
       . exact Qo id2 o2 b h2 Abc Azu h3
       . have:=hr.heap.lt ⟨id2,o2,h2,Abc⟩;simp only at h3;omega
     rcases Ci id with ⟨j,o2,h1,h2,h3⟩ | ⟨h1,h2⟩<;>rcases Ci N1 with ⟨j',o2',EO,GZ,h3'⟩ | ⟨EO,GZ⟩
     . rw[h3] at ho;rw[h3'] at MM;cases ho;cases MM;rw[hM2 j id ⟨o2,h1⟩ h2] at CC;rw[hM2 j' N1 ⟨o2',EO⟩ GZ] at Eh;have:=Up.inj j o2 j' o2' b h1 EO ((AO.Gn _ _ _ _).1 CC) ((AO.Gn _ _ _ _).1 Eh);subst this;rw[h2] at GZ;cases GZ;rfl
     . rw[h3] at ho;cases ho;have WJ:get st.hp N1=some o':=by rw[<-GZ];exact MM
       rw[hM2 j id ⟨o2,h1⟩ h2] at CC;rw[u7 N1 EO] at Eh;exact (Ar9 j o2 N1 o' h1 ((AO.Gn _ _ _ _).1 CC) WJ Eh (WK N1 o' MM EO WJ)).elim
     . rw[h3'] at MM;cases MM;have WJ:get st.hp id=some o:=by rw[<-h2];exact ho
       rw[hM2 j' N1 ⟨o2',EO⟩ GZ] at Eh;rw[u7 id h1] at CC;exact (Ar9 j' o2' id o EO ((AO.Gn _ _ _ _).1 Eh) WJ CC (WK id o ho h1 WJ)).elim
     . have WJ:get st.hp id=some o:=by rw[<-h2];exact ho
       have Azg:get st.hp N1=some o':=by rw[<-GZ];exact MM
       rw[u7 id h1] at CC;rw[u7 N1 EO] at Eh;exact hr.heap.inj id o N1 o' b WJ Azg CC Eh
 . have Ho:=hr.keep;have Ajt:∀b,Ev (λ j=>M (T.getD (j - base) 0)) (sub st.hp (idx T base) base T) b->c.O0 b∨c.w0.heap.size<=b:=λ b hO=>by
     obtain ⟨i,id,o,h1,h2,h3⟩:=r8 _ hO;exact Ho.own _ ⟨id,o,h2,h3⟩
   refine ⟨hK.os.trans Ho.os,hK.tape.trans Ho.tape,hK.output.trans Ho.output,Bs Ho.size hK.size,λ b hb hO=>?_,λ b hb=>hK.F0 b (Ho.F0 b hb),λ b hb=>?_,hK.Fl,?_,Ho.UM.trans Asq,Ho.Z9⟩
   . rw[hK.Lz b (Nat.lt_of_lt_of_le hb Ho.size) (λ hO2=>?_)]
     . exact Ho.Lz b hb hO
     . rcases Ajt b hO2 with h1 | h1
       . exact hO h1
       . omega
   . rcases hK.Fn b hb with h1 | h1 | h1
     . exact Ho.Fn b h1
     . exact .inr (Ajt b h1)
     . exact .inr (.inr (Bs Ho.size h1))
   . rintro b ⟨id,o,ho,CC⟩;rcases Ci id with ⟨j,o2,h1,h2,h3⟩ | ⟨h1,h2⟩
     . rw[h3] at ho;cases ho;rw[hM2 j id ⟨o2,h1⟩ h2] at CC;rcases hK.own _ ⟨j,o2,h1,(AO.Gn _ _ _ _).1 CC⟩ with h4 | h4
       . exact Ajt _ h4
       . exact .inr (Bs Ho.size h4)
     . have WJ:get st.hp id=some o:=by rw[<-h2];exact ho
       rw[u7 id h1] at CC;exact Ho.own _ ⟨id,o,WJ,CC⟩
end
end Go.Am
namespace Go.Am
open Go
section
variable {P:Program} {c:Ctx} {st:St} {a:Act} {w:World} {F:Nat->Prop} {M:Nat->Mb}
theorem Rel.put(hr:Rel c st a w F M){d:D}{v:Value}(hd:DR F w M (sg st.hp) d v)(t:Option Tmp):Rel c (st.put t d) (a.put t v) w F M:=by
 cases t with
 | none=>exact hr
 | some t=>
   simp only[St.put,Act.put];by_cases ht:t<st.n
   . rw[if_pos ht];have Cj:t<a.tmps.size:=by rw[hr.size];exact ht
     refine ⟨λ q e hq=>?_,by simp[hr.size],hr.defers,hr.heap,hr.keep⟩;simp only[Cb] at hq;have Ew:=hr.size;by_cases e1:t=q
     . subst e1;simp only[AL,Al] at hq;subst hq;have:(a.tmps.setIfInBounds t v).getD t undef=v:=by rw[As,Array.getElem?_setIfInBounds,if_pos rfl,if_pos Cj];rfl
       rw[this];exact hd
     . rw[if_neg e1] at hq;have:(a.tmps.setIfInBounds t v).getD q undef=a.tmps.getD q undef:=by rw[As,As,Array.getElem?_setIfInBounds,if_neg e1]
       rw[this];exact hr.env q e hq
   . rw[if_neg ht];have:a.tmps.setIfInBounds t v=a.tmps:=by
       have hge:¬t<a.tmps.size:=by rw[hr.size];exact ht
       unfold Array.setIfInBounds;rw[dif_neg hge]
     rw[this];exact hr
theorem DK(hr:Rel c st a w F M){d:D}{v:Value}(hd:DR F w M (sg st.hp) d v){k:D->Hp->Prop}(h:bor st.hp d k):
   ∃d' h' F',k d' h'/\Rel c {st with hp:=h'} a w F' M/\(∀b,F b->F' b)/\sg h'=sg st.hp/\DR F' w M (sg h') d' v:=by
 have plain:k d st.hp->∃d' h' F',k d' h'/\Rel c {st with hp:=h'} a w F' M/\(∀b,F b->F' b)/\sg h'=sg st.hp/\DR F' w M (sg h') d' v:=
   λ hk=>⟨d,st.hp,F,hk,hr,λ _ h=>h,rfl,hd⟩
 unfold bor at h;cases d with
 | ref id off len N=>
   have h2:J5 st.hp (.ref id off len N) (λ x h'=>k (.p x) h'):=by
     unfold J5;simp only at h ⊢;exact h
   obtain ⟨x,h',F',hk,h3,h4,h5,h6⟩:=KP hr hd h2;exact ⟨_,h',F',hk,h3,h4,h5,.p h6⟩
 | Dk id n=>
   have h2:J5 st.hp (.Dk id n) (λ x h'=>k (.p x) h'):=by
     unfold J5;simp only at h ⊢;exact h
   obtain ⟨x,h',F',hk,h3,h4,h5,h6⟩:=KP hr hd h2;exact ⟨_,h',F',hk,h3,h4,h5,.p h6⟩
 | cl es=>cases hd with | cl _ ad hx _=>exact ⟨_,st.hp,F,h,hr,λ _ h=>h,rfl,.p hx⟩
 | _=>exact plain h
mutual
theorem Ol:∀(d:D) {st:St} {F:Nat->Prop} {v:Value},Rel c st a w F M->DR F w M (sg st.hp) d v->∀{k:D->Hp->Prop},E2 st.hp d k->
    ∃d' h' F',k d' h'/\Rel c {st with hp:=h'} a w F' M/\(∀b,F b->F' b)/\sg h'=sg st.hp/\DR F' w M (sg h') d' v
  | .agg cs,st,F,v,hr,hd,k,h=>by
    cases hd with
    | agg _ vs hl hc=>
      simp only[E2] at h;obtain ⟨ds,h',F',hk,h1,h2,h3,h4⟩:=Jy cs vs.toList hr ⟨by simpa using hl,λ i e he=>by have:=hc i e he;simpa [List.getD,Array.getD_eq_getD_getElem?] using this⟩ h;exact ⟨_,h',F',hk,h1,h2,h3,.agg _ vs (by have:=h4.1;simpa using this) (λ i e he=>by have:=h4.2 i e he;simpa [List.getD,Array.getD_eq_getD_getElem?] using this)⟩
  | .De cs,st,F,v,hr,hd,k,h=>by
    cases hd with
    | De _ vs hl hc=>
      simp only[E2] at h;obtain ⟨ds,h',F',hk,h1,h2,h3,h4⟩:=Jy cs vs.toList hr ⟨by simpa using hl,λ i e he=>by have:=hc i e he;simpa [List.getD,Array.getD_eq_getD_getElem?] using this⟩ h;exact ⟨_,h',F',hk,h1,h2,h3,.De _ vs (by have:=h4.1;simpa using this) (λ i e he=>by have:=h4.2 i e he;simpa [List.getD,Array.getD_eq_getD_getElem?] using this)⟩
  | .p x,st,F,v,hr,hd,k,h=>DK hr hd (by simpa only[E2] using h)
  | .cl x,st,F,v,hr,hd,k,h=>DK hr hd (by simpa only[E2] using h)
  | .cz x,st,F,v,hr,hd,k,h=>DK hr hd (by simpa only[E2] using h)
  | .ref _ _ _ _,st,F,v,hr,hd,k,h=>DK hr hd (by simpa only[E2] using h)
  | .ptr _ _,st,F,v,hr,hd,k,h=>DK hr hd (by simpa only[E2] using h)
  | .pe _,st,F,v,hr,hd,k,h=>DK hr hd (by simpa only[E2] using h)
  | .ea _ _ _ _,st,F,v,hr,hd,k,h=>DK hr hd (by simpa only[E2] using h)
  | .fn _ _,st,F,v,hr,hd,k,h=>DK hr hd (by simpa only[E2] using h)
  | .np,st,F,v,hr,hd,k,h=>DK hr hd (by simpa only[E2] using h)
  | .mv _,st,F,v,hr,hd,k,h=>DK hr hd (by simpa only[E2] using h)
  | .Dk _ _,st,F,v,hr,hd,k,h=>DK hr hd (by simpa only[E2] using h)
  | .Ls _ _ _,st,F,v,hr,hd,k,h=>DK hr hd (by simpa only[E2] using h)
  | .nr _ _ _ _,st,F,v,hr,hd,k,h=>DK hr hd (by simpa only[E2] using h)
  | .PU,st,F,v,hr,hd,k,h=>DK hr hd (by simpa only[E2] using h)
  | .bad,st,F,v,hr,hd,k,h=>DK hr hd (by simpa only[E2] using h)
theorem Jy:∀(ds:List D) {st:St} {F:Nat->Prop} (vs:List Value),Rel c st a w F M->IB F w M (sg st.hp) ds vs->∀{k:List D->Hp->Prop},PB st.hp ds k->
    ∃Y2 h' F',k Y2 h'/\Rel c {st with hp:=h'} a w F' M/\(∀b,F b->F' b)/\sg h'=sg st.hp/\IB F' w M (sg h') Y2 vs
  | [],st,F,vs,hr,hd,k,h=>by
    simp only[PB] at h;exact ⟨[],st.hp,F,h,hr,λ _ h=>h,rfl,hd⟩
  | d::ds,st,F,vs,hr,hd,k,h=>by
    cases vs with
    | nil=>have:=hd.1;simp at this
    | cons v vs=>
      simp only[PB] at h;have hd0:DR F w M (sg st.hp) d v:=by simpa [List.getD] using hd.2 0 d rfl
      obtain ⟨x,h1,F1,hk,Ia,hF1,Lk,hx⟩:=Ol d hr hd0 h;have Vh:IB F1 w M (sg h1) ds vs:=by
        refine ⟨by have:=hd.1;simpa using this,λ i e he=>?_⟩;have:=hd.2 (i+1) e (by simpa using he);rw[Lk];have h3:DR F w M (sg st.hp) e (vs.getD i undef):=by simpa [List.getD] using this
        exact h3.keep (λ _ _=>rfl) hF1 (CI.refl _ _)
      obtain ⟨xs,h2,F2,Jj,LB,hF2,Md,H4⟩:=Jy ds (st:={st with hp:=h1}) vs Ia Vh hk;refine ⟨x::xs,h2,F2,Jj,LB,λ b hb=>hF2 b (hF1 b hb),Md.trans Lk,by have:=H4.1;simpa using this,λ i y hy=>?_⟩;cases i with
      | zero=>
        simp only[AK,Al] at hy;subst hy;have h4:=hx.keep (w':=w) (λ _ _=>rfl) hF2 (CI.refl M (sg h1));rw[Md]
        simpa [List.getD] using h4
      | succ i=>simp only[List.getElem?_cons_succ] at hy;simpa [List.getD] using H4.2 i y hy
end
theorem QB(hr:Rel c st a w F M)(xs:List Operand):IB F w M (sg st.hp) (xs.map (ev st)) (xs.map a.eval):=by
 refine ⟨by simp,λ i d hd=>?_⟩;rw[AP] at hd;cases hx:xs[i]? with
 | none=>rw[hx] at hd;cases hd
 | some x=>
   rw[hx] at hd;cases hd;rw[Ay,AP,hx];exact B9 hr x
theorem SL{hp:Hp}{t:TypeId}{x:D}{k:D->Prop}(h:Aj6 P hp t x k){vx:Value}(hx:DR F w M (sg hp) x vx)(ts:Array TypeId)(ty:TypeId)(ht:ts[0]?=some t):
   ∃d v,k d/\DR F w M (sg hp) d v/\(Builtin.len_ ts ty #[vx]).run P w= .ok v w:=by
 unfold Aj6 at h;split at h
 case h_2=>exact h.elim
 rename_i ti h1;obtain ⟨i1,u1,z1,Nr,Fe,_,rfl⟩:=B4 h1;split at h
 . rename_i l hk;obtain rfl:=TK.of_string hk;cases hx with | p hx=>cases hx;exact ⟨_,_,h,.p (.int _ _),by simp[Builtin.len_,ht,run_underlying Fe,goInt,HV]⟩
 . rename_i e es hk;obtain rfl:=TK.of_slice hk;cases hx with | p hx=>
     have:∃ad cap,vx= .slice ad es.length cap:=by cases hx<;>exact ⟨_,_,rfl⟩
     obtain ⟨ad,cap,rfl⟩:=this;exact ⟨_,_,h,.p (.int _ _),by simp[Builtin.len_,ht,run_underlying Fe,goInt]⟩
 . rename_i e es hk;obtain rfl:=TK.of_slice hk;cases hx with | cl _ ad hx _=>exact ⟨_,_,h,.p (.int _ _),by simp[Builtin.len_,ht,run_underlying Fe,goInt]⟩
 . rename_i e id off len N hk;obtain rfl:=TK.of_slice hk;cases hx with
   | ref _ _ _ _ sz n _ hs hN hv h2=>
     rw[hs] at h;obtain ⟨ad,cap,rfl,_⟩:=h2 h.1;exact ⟨_,_,h.2,.p (.int _ _),by simp[Builtin.len_,ht,run_underlying Fe,goInt]⟩
 . rename_i e id n hk;obtain rfl:=TK.of_slice hk;cases hx with
   | Dk _ _ sz m kk _ hs hN hv h2=>
     obtain ⟨ad,cap,rfl,_⟩:=hv;exact ⟨_,_,h,.p (.int _ _),by simp[Builtin.len_,ht,run_underlying Fe,goInt]⟩
 . rename_i e id i len q hk;obtain rfl:=TK.of_slice hk;cases hx with
   | nr _ _ _ _ sz m kk _ hs hN hv h2=>
     obtain ⟨ad,cap,rfl⟩:=hv;exact ⟨_,_,h,.p (.int _ _),by simp[Builtin.len_,ht,run_underlying Fe,goInt]⟩
 . rename_i n e _ hk;obtain rfl:=TK.of_array hk;exact ⟨_,_,h,.p (.int _ _),by simp[Builtin.len_,ht,run_underlying Fe,goInt]⟩
 . exact h.elim
theorem Yf{α:Type}{x:α}{f:Operand->α}{xs:Array Operand}(h:xs.toList.map f=[x]):∃q,xs=#[q]/\f q=x:=by
 obtain ⟨l⟩:=xs;simp only at h;cases l with
 | nil=>simp at h
 | cons q r=>
   cases r with
   | nil=>simp only[AD,Bi,List.cons.injEq,and_true] at h;exact ⟨q,rfl,h⟩
   | cons _ _=>simp at h
theorem H3{α:Type}{x y:α}{f:Operand->α}{xs:Array Operand}(h:xs.toList.map f=[x,y]):∃q r,xs=#[q,r]/\f q=x/\f r=y:=by
 obtain ⟨l⟩:=xs;simp only at h;cases l with
 | nil=>simp at h
 | cons q r=>
   cases r with
   | nil=>simp at h
   | cons q2 r2=>
     cases r2 with
     | nil=>simp only[AD,Bi,List.cons.injEq,and_true] at h;exact ⟨q,q2,rfl,h.1,h.2⟩
     | cons _ _=>simp at h
theorem Mv(hr:Rel c st a w F M){o:Oper}{cl:Call}{b:Builtin}(ho:o.op= .call cl)(hb:cl.callee= .builtin b){q:Nat}{k:D->Hp->Prop}
   (h:Mw P st q b cl.argTypes (cl.args.toList.map (ev st)) k):
   ∃d h' v w' M',k d h'/\Rel c {st with hp:=h'} a w' F M'/\DR F w' M' (sg h') d v/\(execOp a.eval o).run P w= .ok (.value v) w':=by
 unfold Mw at h;generalize hl:cl.args.toList.map (ev st)=l at h;split at h
 ·
   rename_i x;obtain ⟨xq,Hn,rfl⟩:=Yf hl;split at h
   case h_2=>exact h.elim
   rename_i t ht;obtain ⟨d,v,h1,h2,h3⟩:=SL (P:=P) h (B9 hr xq) cl.argTypes o.type ht;exact ⟨d,_,v,w,M,h1,hr,h2,by simp[execOp,ho,hb,resolve,invoke,builtin,Hn,h3]⟩
 ·
   rename_i s x;obtain ⟨sq,xq,Hn,rfl,rfl⟩:=H3 hl;split at h
   case h_2=>exact h.elim
   rename_i t t2 ht ht2;obtain ⟨d,h',v,w',M',h1,h2,h3,h4⟩:=Aac (P:=P) (ty:=o.type) hr (B9 hr sq) (B9 hr xq) h;have e:Builtin.append_ cl.argTypes o.type #[a.eval sq,a.eval xq]=Builtin.append_ #[t,t2] o.type #[a.eval sq,a.eval xq]:=by
     simp[Builtin.append_,ht,ht2]
   exact ⟨d,h',v,w',M',h1,h2,h3,by simp[execOp,ho,hb,resolve,invoke,builtin,Hn,e,h4]⟩
 ·
   rename_i s x;obtain ⟨sq,xq,Hn,rfl,rfl⟩:=H3 hl;split at h
   case h_2=>exact h.elim
   rename_i t t2 ht ht2;obtain ⟨d,h',v,w',M',h1,h2,h3,h4⟩:=Zd (P:=P) (t2:=t2) (ty:=o.type) hr (B9 hr sq) (B9 hr xq) h;have e:Builtin.copy_ cl.argTypes o.type #[a.eval sq,a.eval xq]=Builtin.copy_ #[t,t2] o.type #[a.eval sq,a.eval xq]:=by
     simp[Builtin.copy_,ht]
   exact ⟨d,h',v,w',M',h1,h2,h3,by simp[execOp,ho,hb,resolve,invoke,builtin,Hn,e,h4]⟩
 ·
   rename_i k1 x k2 y;obtain ⟨xq,yq,Hn,hx,hy⟩:=H3 hl;obtain ⟨rfl,hk⟩:=h;have h1:=B9 hr xq;have h2:=B9 hr yq;rw[hx] at h1;rw[hy] at h2;generalize ML:a.eval xq=vx at h1;generalize hvy:a.eval yq=vy at h2;cases h1 with | p h1=>cases h1;cases h2 with | p h2=>
     cases h2;exact ⟨_,_,_,w,M,hk,hr,.p (.int _ _),by simp[execOp,ho,hb,resolve,invoke,builtin,Hn,ML,hvy,run_min_int2]⟩
 ·
   rename_i k1 x k2 y;obtain ⟨xq,yq,Hn,hx,hy⟩:=H3 hl;obtain ⟨rfl,hk⟩:=h;have h1:=B9 hr xq;have h2:=B9 hr yq;rw[hx] at h1;rw[hy] at h2;generalize ML:a.eval xq=vx at h1;generalize hvy:a.eval yq=vy at h2;cases h1 with | p h1=>cases h1;cases h2 with | p h2=>
     cases h2;exact ⟨_,_,_,w,M,hk,hr,.p (.int _ _),by simp[execOp,ho,hb,resolve,invoke,builtin,Hn,ML,hvy,run_max_int2]⟩
 . exact h.elim
theorem Ad6(hr:Rel c st a w F M){o:Oper}{f:Operand}{args:List Operand}{g:FuncId}{cap:List D}{K:St->Prop}(ho:C4 o.op=some (f,args))(hg:ev st f= .fn g cap)
   (hk:Hy P st.hp g (args.map (ev st)++cap) (o.dst.getD 0) λ d h'=>K (({st with hp:=h'}:St).put o.dst d)) (Q:Exit->Act->World->Prop):o.wp P a w (Good c K) Q:=by
 unfold C4 at ho;split at ho
 case h_2=>cases ho
 rename_i cl Kj;split at ho
 case h_2=>cases ho
 rename_i f' hf;simp only[Al,Prod.mk.injEq] at ho;obtain ⟨rfl,rfl⟩:=ho;have hfv:=B9 hr f';rw[hg] at hfv;generalize hvf:a.eval f'=vf at hfv;cases hfv with
 | fn _ _ TB hl hc=>
   have Ir:=(QB hr cl.args.toList).append (cs':=cap) (vs':=TB.toList) ⟨by simpa using hl,λ i e he=>by have:=hc i e he;simpa [List.getD,Array.getD_eq_getD_getElem?] using this⟩;rcases Rl (vs:=cl.args.map a.eval++TB) hr (by simpa using Ir) hk with ⟨He,K1⟩ | ⟨v,w',I4,v',d,h2,F2,M2,hv',Jj,LB,I8⟩
   . have Dr:(execOp a.eval o).run P w= .ok (.enter g (cl.args.map a.eval++TB)) w:=by
       simp only[execOp,Kj,hf,resolve,hvf,Deferred.ofValue,Sem.run_bind,Sem.run_pure,Result.andThen_ok,invoke,Array.empty_append];exact He
     unfold Oper.wp;rw[Dr];refine K1.mono ?_;rintro e w' ⟨v,d,h2,F2,M2,rfl,Jj,LB,I8⟩;exact ⟨_,F2,M2,Jj,LB.put I8 o.dst⟩
   . have Dr:(execOp a.eval o).run P w= .ok (.value v) w':=by
       simp only[execOp,Kj,hf,resolve,hvf,Deferred.ofValue,Sem.run_bind,Sem.run_pure,Result.andThen_ok,invoke,Array.empty_append];exact I4
     cases hv';unfold Oper.wp;rw[Dr];exact ⟨_,F2,M2,Jj,LB.put I8 o.dst⟩
theorem PO(hr:Rel c st a w F M){s:Bool}{o:Oper}{K:St->Prop}(h:PT P s o K st)(Q:Exit->Act->World->Prop):o.wp P a w (Good c K) Q:=by
 have val:∀{d v},K (st.put o.dst d)->DR F w M (sg st.hp) d v->(execOp a.eval o).run P w= .ok (.value v) w->o.wp P a w (Good c K) Q:=by
   intro d v hk hd Dr;unfold Oper.wp;rw[Dr];exact ⟨_,F,M,hk,hr.put hd o.dst⟩
 have mop:Axe P c st a w F o (λ d h=>K (({st with hp:=h}:St).put o.dst d))->o.wp P a w (Good c K) Q:=by
   rintro ⟨d,h',v,w',F',M',hk,KD,hF,hd,Dr⟩;unfold Oper.wp;rcases Dr with Dr | ⟨rfl,Dr⟩
   . rw[Dr];exact ⟨_,F',M',hk,KD.put hd o.dst⟩
   . rw[Dr];exact ⟨_,F',M',hk,KD.put hd o.dst⟩
 have other:(JQ P st o).all (λ x=>K (({st with hp:=x.2}:St).put o.dst x.1))->o.wp P a w (Good c K) Q:=by
   intro h;unfold JQ at h;split at h
   . rename_i cl ho;split at h
     . rename_i b hb;obtain ⟨d,h',v,w',M',hk,KD,hd,Dr⟩:=Mv hr ho hb (K7 (k:=λ d h=>K (({st with hp:=h}:St).put o.dst d)) h);unfold Oper.wp;rw[Dr];exact ⟨_,F,M',hk,KD.put hd o.dst⟩
     . exact h.elim
   . exact mop (FW hr (H2 h))
   . exact mop (FW hr (H2 h))
   . exact mop (FW hr (H2 h))
   . exact mop (FW hr (H2 h))
   . exact mop (FW hr (H2 h))
   . exact mop (FW hr (H2 h))
   . exact mop (FW hr (H2 h))
   . have h1:=XL (Rs.B7 (λ d hd=>hd.2) (Rs.all_bind h));obtain ⟨d,v,hk,hd,Dr⟩:=UA hr h1;exact val hk hd Dr
 unfold PT at h;split at h
 . rename_i f args ho;unfold C4 at ho;split at ho
   case h_2=>cases ho
   rename_i cl Kj;split at ho
   case h_2=>cases ho
   rename_i f' hf;simp only[Al,Prod.mk.injEq] at ho;obtain ⟨rfl,rfl⟩:=ho;rcases Rs.FL h with h | h
   case inr=>exact h.2 c a w F M Q hr
   have hfv:=B9 hr f';unfold GV at h;split at h
   case h_2=>exact h.elim
   rename_i g cap he;rw[he] at hfv;generalize hvf:a.eval f'=vf at hfv;cases hfv with
   | fn _ _ TB hl hc=>
     have Ir:=(QB hr cl.args.toList).append (cs':=cap) (vs':=TB.toList) ⟨by simpa using hl,λ i e he=>by have:=hc i e he;simpa [List.getD,Array.getD_eq_getD_getElem?] using this⟩;have hb:=K9 (k:=λ ds h=>K6 (s=true/\Ny P o K st) P h g ds (o.dst.getD 0) λ d h'=>K (({st with hp:=h'}:St).put o.dst d)) (Rs.B7 (λ x hx=>hx.2) (Rs.all_bind h));obtain ⟨ds,h',F',hk,KD,hF,hs,hds⟩:=Jy _ _ hr Ir hb;rcases QL hk with hk | hk
     case inr=>exact hk.2 c a w F M Q hr
     rcases Rl (vs:=cl.args.map a.eval++TB) KD (by simpa using hds) hk with ⟨He,K1⟩ | ⟨v,w',I4,v',d,h2,F2,M2,hv',Jj,LB,I8⟩
     . have Dr:(execOp a.eval o).run P w= .ok (.enter g (cl.args.map a.eval++TB)) w:=by
         simp only[execOp,Kj,hf,resolve,hvf,Deferred.ofValue,Sem.run_bind,Sem.run_pure,Result.andThen_ok,invoke,Array.empty_append];exact He
       unfold Oper.wp;rw[Dr];refine K1.mono ?_;rintro e w' ⟨v,d,h2,F2,M2,rfl,Jj,LB,I8⟩;exact ⟨_,F2,M2,Jj,LB.put I8 o.dst⟩
     . have Dr:(execOp a.eval o).run P w= .ok (.value v) w':=by
         simp only[execOp,Kj,hf,resolve,hvf,Deferred.ofValue,Sem.run_bind,Sem.run_pure,Result.andThen_ok,invoke,Array.empty_append];exact I4
       cases hv';unfold Oper.wp;rw[Dr];exact ⟨_,F2,M2,Jj,LB.put I8 o.dst⟩
 . rcases Rs.FL h with h | h
   . exact other h
   . exact h.2 c a w F M Q hr
theorem Rb(hr:Rel c st a w F M){ops:Array Oper}{o:Oper}{yes no:Prop}(h:Fx st ops.toList o.guard yes no):
   (Region.wanted o (yielded ops a.tmps)=true/\yes)∨(Region.wanted o (yielded ops a.tmps)=false/\no):=by
 unfold Fx at h;split at h
 . rename_i hg;exact .inl ⟨by simp[Region.wanted,hg],h⟩
 . rename_i j want hg;have hyl:∀{d:D},((ops.toList[j]?).bind (·.dst)).bind (get st.env)=some d->∃t,(ops[j]?).bind (·.dst)=some t/\DR F w M (sg st.hp) d (a.tmps.getD t undef):=by
     intro d hd;rw[BD] at hd;cases ht:(ops[j]?).bind (·.dst) with
     | none=>rw[ht] at hd;cases hd
     | some t=>rw[ht] at hd;exact ⟨t,rfl,hr.env t d hd⟩
   split at h
   . rename_i b hb;obtain ⟨t,h1,h2⟩:=hyl hb;have hv:a.tmps[t]?=some (.bool b):=by
       generalize hq:a.tmps.getD t undef=v at h2;cases h2 with | p h2=>
         cases h2;rw[As] at hq;cases hx:a.tmps[t]? with
         | none=>rw[hx] at hq;simp[undef] at hq
         | some u=>rw[hx] at hq;simp at hq;rw[hq]
     have hw:Region.wanted o (yielded ops a.tmps)=(b==want):=by
       simp only[Region.wanted,hg,yielded,h1,Aa,hv];cases b<;>cases want<;>rfl
     rw[hw];by_cases e:(b==want)=true
     . exact .inl ⟨e,h.1 e⟩
     . exact .inr ⟨by simpa using e,h.2 (by simpa using e)⟩
   . rename_i hb;obtain ⟨t,h1,h2⟩:=hyl hb;refine .inr ⟨?_,h⟩;simp only[Region.wanted,hg,yielded,h1,Aa];generalize hq:a.tmps.getD t undef=v at h2;cases h2 with
     | De _ vs hl _=>
       rw[As] at hq;cases hx:a.tmps[t]? with
       | none=>rfl
       | some u=>rw[hx] at hq;simp at hq;rw[hq];rfl
   . exact h.elim
theorem Rel.drew(hr:Rel c st a w F M):Rel c st a {w with drawn:=w.drawn+1} F M:=by
 have hs:=CI.refl M (sg st.hp);refine ⟨λ t d ht=>(hr.env t d ht).keep (λ _ _=>rfl) (λ _ h=>h) hs,hr.size,hr.defers,hr.heap.keep (λ _ _=>rfl) (λ _ _=>rfl),?_⟩;have hk:=hr.keep;exact ⟨hk.os,hk.tape,hk.output,hk.size,hk.Lz,hk.F0,hk.Fn,hk.Fl,hk.own,hk.UM,hk.Z9⟩
theorem NA{Q:Exit->Act->World->Prop}{s:Bool}{K:St->Prop}(ops:Array Oper)(hQ:∀a w,Good c K a w->Q .normal a w):∀(l:List Oper) {st:St} {a:Act} {w:World} {F:Nat->Prop} {M:Nat->Mb},
   Rel c st a w F M->T5 P s ops.toList l K st->wpList P ops Q l a w
 | [],st,a,w,F,M,hr,h=>hQ _ _ ⟨st,F,M,h,hr⟩
 | o::rest,st,a,w,F,M,hr,h=>by
   simp only[T5] at h;refine wpList_step λ KK hKK=>?_;have yes:PT P s o (T5 P s ops.toList rest K) st->o.wp P a w KK Q:=λ hy=>
     Oper.wp_mono (λ a' w' ⟨st',F',M',h1,h2⟩=>hKK _ _ (NA ops hQ rest h2 h1)) (PO hr hy Q)
   have no:T5 P s ops.toList rest K (st.put o.dst (.De []))->KK (a.put o.dst undef) w:=λ hn=>
     hKK _ _ (NA ops hQ rest (hr.put (.De [] #[] rfl (λ i d hd=>by simp at hd)) o.dst) hn)
   rcases Rb hr h with ⟨hw,hy⟩ | ⟨hw,hn⟩
   . rw[if_pos hw];exact yes hy
   . rw[if_neg (by rw[hw];simp)];exact no hn
theorem Ahn{K:St->Prop}{Q:Exit->St->Prop}{e:Exit}{a:Act}{w:World}{N:Act->World->Prop}(hN:∀st F M,K st->Rel c st a w F M->N a w)(h:QC c (thn K Q) e a w):Exit.then N (QC c Q) e a w:=by
 obtain ⟨st,F,M,h1,h2⟩:=h;cases e<;>first
   | exact hN st F M h1 h2
   | exact ⟨st,F,M,h1,h2⟩
theorem Atk{id:Nat}{Q:Exit->St->Prop}{e:Exit}{a:Act}{w:World}(h:QC c (Dp id Q) e a w):Exit.inBlock id (QC c Q) e a w:=by
 obtain ⟨st,F,M,h1,h2⟩:=h;cases e with
 | exit N1=>
   simp only[Dp] at h1;simp only[Exit.inBlock];split at h1
   . rename_i e;rw[if_pos e];exact ⟨st,F,M,h1,h2⟩
   . rename_i e;rw[if_neg e];exact ⟨st,F,M,h1,h2⟩
 | _=>exact ⟨st,F,M,h1,h2⟩
theorem G2:∀(x:Code) {Q:Exit->St->Prop} {st:St} {a:Act} {w:World} {F:Nat->Prop} {M:Nat->Mb},Rel c st a w F M->wA P x Q st->x.wp P (QC c Q) a w
 | .skip,Q,st,a,w,F,M,hr,h=>wp_skip ⟨st,F,M,h,hr⟩
 | .label _,Q,st,a,w,F,M,hr,h=>wp_label ⟨st,F,M,h,hr⟩
 | .ret,Q,st,a,w,F,M,hr,h=>wp_ret ⟨st,F,M,h,hr⟩
 | .exit id,Q,st,a,w,F,M,hr,h=>wp_exit ⟨st,F,M,h,hr⟩
 | .goto l,Q,st,a,w,F,M,hr,h=>wp_goto ⟨st,F,M,h,hr⟩
 | .seq x y,Q,st,a,w,F,M,hr,h=>by
   simp only[wA] at h;exact wp_seq (Code.wp_mono (λ e a' w' hq=>Ahn (λ st F M h1 h2=>G2 y h2 h1) hq) (G2 x hr h))
 | .cond q x y,Q,st,a,w,F,M,hr,h=>by
   simp only[wA] at h;have hq:=B9 hr q;split at h
   . rename_i b hb;rw[hb] at hq;generalize hv:a.eval q=v at hq;cases hq with | p hq=>
       cases hq;exact wp_cond_split hv (λ e=>G2 x hr (h.1 e)) (λ e=>G2 y hr (h.2 e))
   . exact h.elim
 | .block id x,Q,st,a,w,F,M,hr,h=>by
   simp only[wA] at h;exact wp_block (Code.wp_mono (λ e a' w' hq=>Atk hq) (G2 x hr h))
 | .loop x,Q,st,a,w,F,M,hr,h=>by
   simp only[wA] at h;obtain ⟨n,h⟩:=h;refine wp_loop_rounds n ?_;have key:∀(n:Nat) (st:St) (a:Act) (w:World) (F:Nat->Prop) (M:Nat->Mb),Rel c st a w F M->XD (wA P x) Q n st->Code.rounds P x (QC c Q) n a w:=by
     intro n
     induction n with
     | zero=>intro st a w F M _ h;exact h.elim
     | succ n ih=>
       intro st a w F M hr h;rw[rounds_succ];obtain ⟨st1,HG,h⟩:=h;obtain ⟨F1,M1,Ia⟩:=HG c a w F M hr;exact Code.wp_mono (λ e a' w' hq=>Ahn (λ st F M h1 h2=>ih st _ _ F M h2 h1) hq) (G2 x Ia h)
   exact key n st a w F M hr h
 | .scope x,Q,st,a,w,F,M,hr,h=>by
   simp only[wA] at h;exact h c a w F M hr
 | .region id ops draw,Q,st,a,w,F,M,hr,h=>by
   simp only[wA] at h;rcases h with ⟨rfl,h⟩ | ⟨rfl,h⟩
   . exact wp_region_list (NA ops (λ a' w' hg=>hg) ops.toList hr h)
   . exact h c a w F M hr
 | .rangeFunc ..,Q,st,a,w,F,M,hr,h=>by simp only[wA] at h
 | .refuse _,Q,st,a,w,F,M,hr,h=>by simp only[wA] at h
end
end Go.Am
namespace Go.Am
open Go
def Ri:Nat->List D->List (Nat×D)
 | _,[]=>[]
 | k,d::r=>(k,d)::Ri (k+1) r
def Ua(P:Program)(st:St):List ResultVar->(List D->Prop)->Prop
 | [],k=>k []
 | .tmp t::r,k=>Ua P st r λ ds=>k ((get st.env t).getD .bad::ds)
 | .cell t T::r,k=>U6 P st.hp T ((get st.env t).getD .bad) λ d=>Ua P st r λ ds=>k (d::ds)
def V2:List D->D
 | [d]=>d
 | ds=> .De ds
def NL(T:List Nat)(id:Nat):Option Nat:=if base<=id then (if id∈T then some id else none) else idx (T.filter (· <base)) 0 id
def pick(h:Hp)(ρ:Nat->Option Nat):List Nat->Hp
 | []=>[]
 | id::r=>match get h id,ρ id with
   | some o,some j=>(j,o.Ea ρ)::pick h ρ r
   | _,_=>pick h ρ r
def NN(h0:List Nat)(hp:Hp)(d:D)(R:Hp->D->Prop):Prop:=
 let T:=DF hp (h0++d.ids)
 T.Nodup/\(T.all λ id=>(get hp id).isSome)=true/\(h0.all λ id=>base<=id&&T.contains id)=true/\(T.filter (· <base)).length<=base/\
 R (pick hp (NL T) T) (d.Ea (NL T))
def Tn(h0:List Nat)(hp:Hp)(d:D)(R:Hp->D->Prop):Prop:=
 NN h0 hp d R∨E2 hp d λ d' h'=>NN h0 h' d' R
def Baq(P:Program)(fn:Func)(h0:List Nat)(R:Hp->D->Prop):Exit->St->Prop
 | .normal,st | .ret,st=>Ua P st fn.results.toList λ ds=>Tn h0 st.hp (V2 ds) R
 | _,_=>False
section
variable {P:Program} {c:Ctx} {st:St} {a:Act} {w:World} {F:Nat->Prop} {M:Nat->Mb}
theorem Vl:∀(ds:List D) (k t:Nat) (d:D),get (Ri k ds) t=some d->k<=t/\ds[t - k]?=some d
 | [],k,t,d,h=>by simp[Ri,get] at h
 | x::r,k,t,d,h=>by
   simp only[Ri,Cb] at h;split at h
   . rename_i e;cases h;subst e;exact ⟨Ai _,by simp⟩
   . obtain ⟨h1,h2⟩:=Vl r (k+1) t d h;exact ⟨by omega,by rw[show t - k=(t - (k+1))+1 from by omega];simpa using h2⟩
theorem Rel.start{h:Hp}{args:List D}{vs:Array Value}{n:Nat}(Lw:HR F w M h)(Ow:∀b,F b->b<w.heap.size)(Rw:∀id,sg h id≠none->base<=id)(hd:IB F w M (sg h) args vs.toList)(hn:args.length<=n):
   Rel ⟨w,F,Ev M h,M,sg h⟩ ⟨Ri 0 args,h,n⟩ {tmps:=vs++Array.replicate (n - vs.size) undef,defers:=[]} w F M:=by
 have hl:vs.size=args.length:=by simpa using hd.1
 refine ⟨λ t d ht=>?_,by simp;omega,rfl,Lw,⟨rfl,rfl,rfl,Ai _,λ _ _ _=>rfl,λ _ h=>h,λ _ h=> .inl h,Ow,λ _ h=> .inl h,CI.refl _ _,Rw⟩⟩;obtain ⟨_,h2⟩:=Vl args 0 t d ht;have h3:=hd.2 t d (by simpa using h2);have Cj:=(An.1 h2).1;have e:(vs++Array.replicate (n - vs.size) undef).getD t undef=vs.toList.getD t undef:=by
   rw[As,Ay,Array.getElem?_append,if_pos (by omega),BD]
 rw[e];exact h3
theorem NO(hr:Rel c st a w F M):∀(rs:List ResultVar) {k:List D->Prop},Ua P st rs k->
   ∃ds vs,k ds/\IB F w M (sg st.hp) ds vs/\(rs.mapM λ | .tmp t=>pure (a.tmps.getD t undef) | .cell q t=>do loadVar t (<-asAddr (a.tmps.getD q undef)):Sem (List Value)).run P w= .ok vs w
 | [],k,h=>⟨[],[],h,⟨rfl,λ i d hd=>by simp at hd⟩,by simp⟩
 | .tmp t::r,k,h=>by
   simp only[Ua] at h;obtain ⟨ds,vs,h1,h2,h3⟩:=NO hr r h;have hd:DR F w M (sg st.hp) ((get st.env t).getD .bad) (a.tmps.getD t undef):=B9 hr (.tmp t);refine ⟨_,a.tmps.getD t undef::vs,h1,⟨by simp[h2.1],λ i d WO=>?_⟩,?_⟩
   . cases i with
     | zero=>simp only[List.getElem?_cons_zero,Option.some.injEq] at WO;subst WO;simpa [List.getD] using hd
     | succ i=>simp only[List.getElem?_cons_succ] at WO;simpa [List.getD] using h2.2 i d WO
   . rw[List.mapM_cons,Sem.run_bind,Sem.run_pure,Result.andThen_ok,Sem.run_bind,h3];rfl
 | .cell t T::r,k,h=>by
   simp only[Ua] at h;have hd:DR F w M (sg st.hp) ((get st.env t).getD .bad) (a.tmps.getD t undef):=B9 hr (.tmp t);obtain ⟨d,v,h4,h5,h6⟩:=Q2 hr.heap h hd;obtain ⟨ds,vs,h1,h2,h3⟩:=NO hr r h4;refine ⟨_,v::vs,h1,⟨by simp[h2.1],λ i d WO=>?_⟩,?_⟩
   . cases i with
     | zero=>simp only[List.getElem?_cons_zero,Option.some.injEq] at WO;subst WO;simpa [List.getD] using h5
     | succ i=>simp only[List.getElem?_cons_succ] at WO;simpa [List.getD] using h2.2 i d WO
   . have h7:(do loadVar T (<-asAddr (a.tmps.getD t undef)):Sem Value).run P w= .ok v w:=by
       generalize a.tmps.getD t undef=x at h6;cases x<;>simp[Instr.loadAt,Instr.sureAddr] at h6;rename_i ad;cases ad<;>simp[Instr.sureAddr] at h6
       simpa [asAddr] using h6
     rw[List.mapM_cons,Sem.run_bind,h7,Result.andThen_ok,Sem.run_bind,h3];rfl
theorem ZV{s:Nat->Option Sg}{ds:List D}{vs:List Value}(h:IB F w M s ds vs):DR F w M s (V2 ds) (if hx:vs.toArray.size=1 then vs.toArray[0] else .tuple vs.toArray):=by
 have hl:=h.1;have De:ds.length≠1->V2 ds= .De ds:=by
   intro Dn;cases ds with
   | nil=>rfl
   | cons d r=>cases r with
     | nil=>simp at Dn
     | cons _ _=>rfl
 by_cases e:ds.length=1
 . obtain ⟨d,rfl⟩:=List.length_eq_one_iff.1 e;obtain ⟨v,rfl⟩:=List.length_eq_one_iff.1 (hl.trans e);have:=h.2 0 d rfl
   simpa [V2,List.getD] using this
 . rw[De e,dif_neg (by simp;omega)];exact .De ds vs.toArray (by simpa using hl) (λ i d hd=>by have:=h.2 i d hd;simpa [List.getD,Array.getD_eq_getD_getElem?] using this)
theorem Kl{h:Hp}{ρ:Nat->Option Nat}:∀{T:List Nat} {j:Nat} {o:AO},get (pick h ρ T) j=some o->∃id o2,id∈T/\ρ id=some j/\get h id=some o2/\o=o2.Ea ρ
 | [],j,o,hg=>by simp[pick,get] at hg
 | id::r,j,o,hg=>by
   simp only[pick] at hg;split at hg
   . rename_i o2 k ho hk;rw[Cb] at hg;split at hg
     . rename_i e;subst e;cases hg;exact ⟨id,o2,by simp,hk,ho,rfl⟩
     . obtain ⟨i,o3,h1,h2⟩:=Kl hg;exact ⟨i,o3,by simp[h1],h2⟩
   . obtain ⟨i,o3,h1,h2⟩:=Kl hg;exact ⟨i,o3,by simp[h1],h2⟩
theorem Re{h:Hp}{ρ:Nat->Option Nat}(Qr:∀i i' j,ρ i=some j->ρ i'=some j->i=i'):∀{T:List Nat} {id j:Nat} {o:AO},id∈T->ρ id=some j->get h id=some o->
   get (pick h ρ T) j=some (o.Ea ρ)
 | [],id,j,o,hm,_,_=>by simp at hm
 | x::r,id,j,o,hm,hj,ho=>by
   simp only[pick];by_cases e:x=id
   . subst e;rw[ho,hj];simp[Cb]
   . have hm':id∈r:=by
       rcases AE.1 hm with h1 | h1
       . exact (e h1.symm).elim
       . exact h1
     have ih:=Re Qr hm' hj ho;split
     . rename_i o2 k WJ hk;rw[Cb,if_neg (λ e2=>e (Qr x id j (by rw[hk,e2]) hj))];exact ih
     . exact ih
theorem Ai9{T:List Nat}(hlen:(T.filter (· <base)).length<=base)(i i' j:Nat)(h:NL T i=some j)(h':NL T i'=some j):i=i':=by
 unfold NL at h h';by_cases e1:base<=i<;>by_cases e2:base<=i'
 . rw[if_pos e1] at h;rw[if_pos e2] at h';split at h<;>split at h'<;>simp_all
 . rw[if_pos e1] at h;rw[if_neg e2] at h';obtain ⟨p,rfl,hp⟩:=I2 _ _ _ _ h';split at h
   . simp only[Al] at h;have:=(An.1 hp).1;omega
   . cases h
 . rw[if_neg e1] at h;rw[if_pos e2] at h';obtain ⟨p,rfl,hp⟩:=I2 _ _ _ _ h;split at h'
   . simp only[Al] at h';have:=(An.1 hp).1;omega
   . cases h'
 . rw[if_neg e1] at h;rw[if_neg e2] at h';obtain ⟨p,rfl,hp⟩:=I2 _ _ _ _ h;obtain ⟨p',e3,hp'⟩:=I2 _ _ _ _ h';have:p=p':=by omega
   subst this;rw[hp] at hp';exact (Ac hp')
theorem NM(hr:Rel c st a w F M){h0:Hp}(hs0:c.s0=sg h0)(hO:∀b,c.O0 b↔Ev c.M0 h0 b){d:D}{v:Value}{R:Hp->D->Prop}(hd:DR F w M (sg st.hp) d v)(h:NN (h0.map (·.1)) st.hp d R):
   ∃h' r M',R h' r/\HR F w M' h'/\DR F w M' (sg h') r v/\An5 c w F M' h':=by
 unfold NN at h;generalize DF st.hp (h0.map (·.1)++d.ids)=T at h;obtain ⟨hT,DZ,h0T,hlen,hR⟩:=h;have Qr:=Ai9 hlen
 let M':Nat->Mb:=λ j=>if base<=j then M j else M ((T.filter (· <base)).getD j 0)
 have hρ:∀id j,NL T id=some j->id∈T/\M' j=M id:=by
   intro id j hj;unfold NL at hj;by_cases e:base<=id
   . rw[if_pos e] at hj;split at hj
     . rename_i hm;simp only[Al] at hj;subst hj;exact ⟨hm,by simp only[M',if_pos e]⟩
     . cases hj
   . rw[if_neg e] at hj;obtain ⟨i,rfl,hi⟩:=I2 _ _ _ _ hj;have Cj:=(An.1 hi).1;refine ⟨(List.mem_filter.1 (AS hi)).1,?_⟩;simp only[M'];rw[if_neg (by omega),Ay,A0,hi,AY]
 have Hb:∀id j,NL T id=some j->sg st.hp id≠none->M' j=M id/\sg (pick st.hp (NL T) T) j=sg st.hp id:=by
   intro id j hj hs;obtain ⟨hm,hM⟩:=hρ id j hj;refine ⟨hM,?_⟩;cases ho:get st.hp id with
   | none=>exact (hs (by simp[sg,ho])).elim
   | some o=>
     have:=Re Qr hm hj ho;simp[sg,this,ho,AO.j0]
 have CC:∀b,Ev M' (pick st.hp (NL T) T) b->Ev M st.hp b:=by
   rintro b ⟨j,o,hj,ho⟩;obtain ⟨id,o2,hm,h1,h2,rfl⟩:=Kl hj;rw[(hρ id j h1).2] at ho;exact ⟨id,o2,h2,(AO.Gn _ _ _ _).1 ho⟩
 refine ⟨_,_,M',hR,?_,hd.Ea Hb,?_⟩
 . constructor
   . intro j o hj;obtain ⟨id,o2,hm,h1,h2,rfl⟩:=Kl hj;rw[(hρ id j h1).2];exact (hr.heap.obj id o2 h2).Ea Hb
   . intro j o j' o' b hj GW ho MM;obtain ⟨id,o2,hm,h1,h2,rfl⟩:=Kl hj;obtain ⟨N1,o2',hm',EO,GZ,rfl⟩:=Kl GW;rw[(hρ id j h1).2] at ho;rw[(hρ N1 j' EO).2] at MM;have:=hr.heap.inj id o2 N1 o2' b h2 GZ ((AO.Gn _ _ _ _).1 ho) ((AO.Gn _ _ _ _).1 MM);subst this;rw[h1] at EO;exact Ac EO
 . have hk:=hr.keep;have Atc:∀id,sg h0 id≠none->base<=id/\id∈T:=by
     intro id hs;have Ft:id∈h0.map (·.1):=by
       clear hs0 hO h0T hR
       induction h0 with
       | nil=>simp[sg,get] at hs
       | cons q r ih=>
         obtain ⟨k,o⟩:=q;simp only[AD,AE];by_cases e:id=k
         . exact .inl e
         . right;apply ih
           simpa [sg,Cb,Ne.symm e] using hs
     have:=AB.1 h0T id Ft;simp only[Ar,Ao] at this;exact ⟨this.1,by simpa using this.2⟩
   have WL:∀id,sg h0 id≠none->NL T id=some id:=λ id hs=>by
     obtain ⟨h1,h2⟩:=Atc id hs;unfold NL;rw[if_pos h1,if_pos h2]
   refine ⟨hk.os,hk.tape,hk.output,hk.size,hk.Lz,hk.F0,hk.Fn,hk.Fl,λ b hb=>hk.own b (CC b hb),?_,hk.Z9⟩;have GY:=hk.UM;rw[hs0] at GY ⊢;refine ⟨λ id hi=>?_,λ id sz n hi=>?_,λ id sz n kk hi=>?_⟩
   . obtain ⟨h1,h2⟩:=GY.1 id hi;have h3:=Hb id id (WL id (by rw[hi];simp)) (by rw[h1];simp);exact ⟨by rw[h3.2,h1],by rw[h3.1,h2]⟩
   . obtain ⟨n',h1,EO,h2⟩:=GY.2.1 id sz n hi;have h3:=Hb id id (WL id (by rw[hi];simp)) (by rw[h1];simp);exact ⟨n',by rw[h3.2,h1],EO,λ e=>by rw[h3.1,h2 e]⟩
   . obtain ⟨n',k',h1,EO,Atb,h2,GZ⟩:=GY.2.2 id sz n kk hi;have h3:=Hb id id (WL id (by rw[hi];simp)) (by rw[h1];simp);exact ⟨n',k',by rw[h3.2,h1],EO,Atb,λ e=>by rw[h3.1];exact h2 e,λ e=>by rw[h3.1];exact GZ e⟩
theorem Ahc{f:FuncId}{fn:Func}{code:Code}{args:List D}{h:Hp}{R:Hp->D->Prop}{Q:Exit->St->Prop}(hf:P.funcs[f]?=some fn)(hb:fn.body=some code)(He:Enters P f)
   (hn:args.length<=fn.ntmps) (hQ:∀e st,Q e st->Baq P fn (h.map (·.1)) R e st) (hw:wA P code Q ⟨Ri 0 args,h,fn.ntmps⟩):BV P f args h R:=by
 refine λ vs w F M Lw Ow Rw hd=> .inl ⟨He vs w,calls_of_wp hf hb (Code.wp_mono ?_ (G2 code (Rel.start Lw Ow Rw hd hn) hw))⟩;rintro e a w' ⟨st,F',M',hq0,hr⟩;have hq:=hQ e st hq0;have key:Ua P st fn.results.toList (λ ds=>Tn (h.map (·.1)) st.hp (V2 ds) R)->a.defers=[]/\∃v,(results fn a.tmps).run P w'= .ok v w'/\
     ∃v2 h' r F' M',Ending.returned v=Ending.returned v2/\R h' r/\HR F' w' M' h'/\DR F' w' M' (sg h') r v2/\An5 ⟨w,F,Ev M h,M,sg h⟩ w' F' M' h':=by
   intro Rx;obtain ⟨ds,vs2,h1,h2,h3⟩:=NO hr _ Rx;have hv:=ZV h2;refine ⟨hr.defers,(if hx:vs2.toArray.size=1 then vs2.toArray[0] else .tuple vs2.toArray),?_,?_⟩;rotate_left
   . rcases h1 with h1 | h1
     . obtain ⟨h',r,M2,h4,h5,h6,h7⟩:=NM hr rfl (λ _=>Iff.rfl) hv h1;exact ⟨_,h',r,F',M2,rfl,h4,h5,h6,h7⟩
     . obtain ⟨d',GZ,F2,h4,LB,hF2,Md,I8⟩:=Ol _ hr hv h1;obtain ⟨h',r,M2,h4,h5,h6,h7⟩:=NM LB rfl (λ _=>Iff.rfl) I8 h4;exact ⟨_,h',r,F2,M2,rfl,h4,h5,h6,h7⟩
   . unfold results;rw[Sem.run_bind,Array.mapM_eq_mapM_toList,Sem.run_map];refine (AQ (λ r=>(r.andThen λ a w'=>Result.ok a.toArray w').andThen λ (a:Array Value) w'=>Sem.run P (pure (if h:a.size=1 then a[0] else Value.tuple a)) w') h3).trans ?_;simp
 cases e<;>first
   | exact key hq
   | exact hq.elim
end
end Go.Am
namespace Go.Am
open Go
theorem nd.{u}{α:Sort u}{a b:α}(h:a=b):a=b:=h
def We(P:Program)(st:St):List ResultVar->Rs (List D)
 | []=> .ret True []
 | .tmp t::r=>(We P st r).bind λ ds=> .ret True ((get st.env t).getD .bad::ds)
 | .cell t T::r=>(L6 P st.hp T ((get st.env t).getD .bad)).bind λ d=>(We P st r).bind λ ds=> .ret True (d::ds)
theorem Sp{P:Program}{st:St}:∀{rs:List ResultVar} {k:List D->Prop},(We P st rs).all k->Ua P st rs k
 | [],k,h=>h.2
 | .tmp t::r,k,h=>by
   simp only[We] at h;simp only[Ua];exact Sp (Rs.B7 (λ ds hd=>hd.2) (Rs.all_bind h))
 | .cell t T::r,k,h=>by
   simp only[We] at h;simp only[Ua];exact U5 (Rs.B7 (λ d hd=>Sp (Rs.B7 (λ ds hd=>hd.2) (Rs.all_bind hd))) (Rs.all_bind h))
inductive Kt where
 | user (Q:Exit->St->Prop)
 | fin (rs:List ResultVar) (h0:List Nat) (R:Hp->D->Prop)
 | seq (y:Code) (k:Kt)
 | Dp (id:Nat) (k:Kt)
 | lp (x:Code) (n:Nat) (k:Kt)
def Kt.E4(P:Program):Kt->Exit->St->Prop
 | .user Q=>Q
 | .fin rs h0 R=>λ e st=>match e with
   | .normal | .ret=>(We P st rs).all λ ds=>Tn h0 st.hp (V2 ds) R
   | _=>False
 | .seq y k=>thn (wA P y (k.E4 P)) (k.E4 P)
 | .Dp id k=>Go.Am.Dp id (k.E4 P)
 | .lp x n k=>thn (XD (wA P x) (k.E4 P) n) (k.E4 P)
def X(P:Program)(c:Code)(k:Kt)(st:St):Prop:=wA P c (k.E4 P) st
def J(P:Program)(k:Kt)(e:Exit)(st:St):Prop:=k.E4 P e st
def O(P:Program)(s:Bool)(ops rest:List Oper)(k:Kt)(st:St):Prop:=T5 P s ops rest (k.E4 P .normal) st
def L(P:Program)(x:Code)(k:Kt)(n:Nat)(st:St):Prop:=XD (wA P x) (k.E4 P) n st
def Af(P:Program)(s:Bool)(ops rest:List Oper)(k:Kt)(o:Oper)(st:St)(r:Rs (D×Hp)):Prop:=
 r.Jg (s=true/\Ny P o (O P s ops rest k) st) λ x=>O P s ops rest k (({st with hp:=x.2}:St).put o.dst x.1)
def Cl(P:Program)(s:Bool)(ops rest:List Oper)(k:Kt)(o:Oper)(st:St)(r:Rs (FuncId×List D×Hp)):Prop:=
 r.Jg (s=true/\Ny P o (O P s ops rest k) st) λ x=>K6 (s=true/\Ny P o (O P s ops rest k) st) P x.2.2 x.1 x.2.1 (o.dst.getD 0) λ d h'=>O P s ops rest k (({st with hp:=h'}:St).put o.dst d)
def Do(P:Program)(s:Bool)(ops rest:List Oper)(k:Kt)(o:Oper)(st:St):Prop:=PT P s o (T5 P s ops rest (k.E4 P .normal)) st
def Cn(P:Program)(x y:Code)(k:Kt)(st:St)(d:D):Prop:=match d with
 | .p (.bool b)=>VU b (X P x k st) (X P y k st)
 | _=>False
inductive Gv where
 | yes | no | cond (b:Bool) | bad
def JP(st:St)(ops:List Oper)(g:Option (Nat×Bool)):Gv:=
 match g with
 | none=> .yes
 | some (j,want)=>match ((ops[j]?).bind (·.dst)).bind (get st.env) with
   | some (.p (.bool b))=> .cond (b==want)
   | some (.De [])=> .no
   | _=> .bad
def Gu(P:Program)(s:Bool)(ops rest:List Oper)(k:Kt)(o:Oper)(st:St):Gv->Prop
 | .yes=>Do P s ops rest k o st
 | .no=>O P s ops rest k (st.put o.dst (.De []))
 | .cond b=>VU b (Do P s ops rest k o st) (O P s ops rest k (st.put o.dst (.De [])))
 | .bad=>False
section
variable {P:Program} {s:Bool} {ops rest l:List Oper} {k:Kt} {st:St} {x y:Code} {id i n:Nat} {o:Oper} {dst:Option Nat} {b:Bool}
theorem Ato:X P .skip k st=J P k .normal st:=nd rfl
theorem Aq8:X P (.label i) k st=J P k .normal st:=nd rfl
theorem Axb:X P .ret k st=J P k .ret st:=nd rfl
theorem Atq:X P (.exit i) k st=J P k (.exit i) st:=nd rfl
theorem Atp:X P (.goto i) k st=J P k (.goto i) st:=nd rfl
theorem Axa:X P (.seq x y) k st=X P x (.seq y k) st:=nd rfl
theorem Atr(c:Operand):X P (.cond c x y) k st=Cn P x y k st (ev st c):=nd rfl
theorem Aq9:X P (.block id x) k st=X P x (.Dp id k) st:=nd rfl
theorem An1:X P (.region id l.toArray false) k st=O P true l l k st:=by
 unfold X O;simp[wA]
theorem Xl(n:Nat)(h:L P x k n st):X P (.loop x) k st:=⟨n,h⟩
theorem Atw:L P x k (n+1) st=∃st1,Wk st st1/\X P x (.lp x n k) st1:=nd rfl
theorem Xn:J P (.seq y k) .normal st=X P y k st:=nd rfl
theorem Ah3:J P (.seq y k) .ret st=J P k .ret st:=nd rfl
theorem Aaf:J P (.seq y k) (.exit i) st=J P k (.exit i) st:=nd rfl
theorem Aae:J P (.seq y k) (.goto i) st=J P k (.goto i) st:=nd rfl
theorem Xp:J P (.Dp id k) .normal st=J P k .normal st:=nd rfl
theorem Ah7:J P (.Dp id k) .ret st=J P k .ret st:=nd rfl
theorem Aag:J P (.Dp id k) (.exit i) st=if i=id then J P k .normal st else J P k (.exit i) st:=nd rfl
theorem Zz:J P (.lp x n k) .normal st=L P x k n st:=nd rfl
theorem An7:J P (.lp x n k) .ret st=J P k .ret st:=nd rfl
theorem Ah5:J P (.lp x n k) (.exit i) st=J P k (.exit i) st:=nd rfl
theorem Axd:O P s ops [] k st=J P k .normal st:=nd rfl
theorem Atv:O P s ops (o::rest) k st=Gu P s ops rest k o st (JP st ops o.guard):=by
 unfold O Gu JP;simp only[T5,Fx];cases o.guard with
 | none=>rfl
 | some g=>
   obtain ⟨j,want⟩:=g;simp only;cases ((ops[j]?).bind (·.dst)).bind (get st.env) with
   | none=>rfl
   | some d=>
     cases d with
     | p q=>cases q<;>rfl
     | De cs=>cases cs<;>rfl
     | _=>rfl
theorem Aty:Gu P s ops rest k o st .yes=Do P s ops rest k o st:=nd rfl
theorem Axf:Gu P s ops rest k o st .no=O P s ops rest k (st.put o.dst (.De [])):=nd rfl
theorem Aqb:Gu P s ops rest k o st (.cond true)=Do P s ops rest k o st:=by simp[Gu]
theorem Ana:Gu P s ops rest k o st (.cond false)=O P s ops rest k (st.put o.dst (.De [])):=by simp[Gu]
theorem Axk:Do P s ops rest k o st=match C4 o.op with
   | some (f,args)=>Cl P s ops rest k o st (GV st f args)
   | none=>Af P s ops rest k o st (JQ P st o):=by
 unfold Do PT Cl Af;cases C4 o.op<;>rfl
theorem Aud(p:Prop)(d:D)(h:Hp):Af P s ops rest k o st (.ret p (d,h))=(p/\O P s ops rest k (({st with hp:=h}:St).put o.dst d)):=nd rfl
theorem Aqk(r r2:Rs (D×Hp)):Af P s ops rest k o st (.split true r r2)=Af P s ops rest k o st r:=by simp[Af,Rs.Jg]
theorem Anh(r r2:Rs (D×Hp)):Af P s ops rest k o st (.split false r r2)=Af P s ops rest k o st r2:=by simp[Af,Rs.Jg]
theorem Aqh:Cn P x y k st (.p (.bool true))=X P x k st:=by simp[Cn]
theorem Anf:Cn P x y k st (.p (.bool false))=X P y k st:=by simp[Cn]
theorem Cv(h1:b=true->X P x k st)(h2:b=false->X P y k st):Cn P x y k st (.p (.bool b)):=⟨h1,h2⟩
def Sm(P:Program)(s:Bool)(ops rest:List Oper)(k:Kt)(o:Oper)(st:St):Prop:=s=true/\Ny P o (O P s ops rest k) st
def Ck(P:Program)(s:Bool)(ops rest:List Oper)(k:Kt)(dst:Option Nat)(st:St)(f:FuncId)(ds:List D)(h:Hp)(T:List Nat)(S:Prop):Prop:=
 (BV P f (HW (idx T base) ds) (sub h (idx T base) base T) λ h' r=>fresh (dst.getD 0) h h'/\O P s ops rest k (({st with hp:=merge T (dst.getD 0) h h'}:St).put dst (r.Ea (back T (dst.getD 0)))))∨S
theorem Aub(p:Prop)(f:FuncId)(ds:List D)(h:Hp):Cl P s ops rest k o st (.ret p (f,ds,h))=
   (p/\(DF h (C6 ds)).Nodup/\((DF h (C6 ds)).all λ id=>(get h id).isSome)=true/\Ck P s ops rest k o.dst st f ds h (DF h (C6 ds)) (Sm P s ops rest k o st)):=nd rfl
def En(P:Program)(h0:List Nat)(R:Hp->D->Prop)(hp:Hp)(r:Rs (List D)):Prop:=r.all λ ds=>Tn h0 hp (V2 ds) R
theorem Ah6(rs:List ResultVar)(h0:List Nat)(R:Hp->D->Prop):J P (.fin rs h0 R) .ret st=En P h0 R st.hp (We P st rs):=nd rfl
theorem Xo(rs:List ResultVar)(h0:List Nat)(R:Hp->D->Prop):J P (.fin rs h0 R) .normal st=En P h0 R st.hp (We P st rs):=nd rfl
theorem Aua(h0:List Nat)(R:Hp->D->Prop)(hp:Hp)(p:Prop)(ds:List D):En P h0 R hp (.ret p ds)=(p/\Tn h0 hp (V2 ds) R):=nd rfl
theorem Alv{h0:List Nat}{hp:Hp}{d:D}{R:Hp->D->Prop}(h:NN h0 hp d R):Tn h0 hp d R:= .inl h
theorem Ag1{h0:List Nat}{hp:Hp}{d:D}{R:Hp->D->Prop}(h:(CT hp d).all λ x=>NN h0 x.2 x.1 R):Tn h0 hp d R:= .inr (M3 (k:=λ d h=>NN h0 h d R) h)
theorem BX{f:FuncId}{fn:Func}{code:Code}{args:List D}{h:Hp}{R:Hp->D->Prop}(hf:P.funcs[f]?=some fn)(hb:fn.body=some code)(He:Enters P f)
   (hn:args.length<=fn.ntmps) (hw:X P code (.fin fn.results.toList (h.map (·.1)) R) ⟨Ri 0 args,h,fn.ntmps⟩):BV P f args h R:=by
 refine Ahc hf hb He hn (λ e st h1=>?_) hw;cases e<;>first
   | exact Sp h1
   | exact h1.elim
theorem BY{x:Int}(h0:-9223372036854775808<=x)(h1:x<=9223372036854775807):IntKind.i64.wrap x=x:=by rw[IntKind.wrap_i64];omega
attribute [go_sem] Ato Aq8 Axb Atq Atp Axa Atr Aq9 An1 Xn Ah3 Aaf Aae Xp Ah7 Aag Zz An7 Ah5 Axd Atv Aty Axf Aqb Ana Axk Aud Aqk Anh Aqh Anf Aub Ah6 Xo Aua JP C4 GV JQ JC KU EZ n9 TG CT Gi TN V6 Mt JE R7 Uc HZ Pl TE HA D8 WD GD WZ GG Abr Ab0 unR Apw Abs L6 P7 UW We Rs.bind Rs.and get ev St.put Co V2 Ix M8 D.one D.cells D.stored TK.isAgg chunk froze Ri Gt KQ C6 D.ids ghost Qz DF Fc Iq AO.ids idx sub Aa3
attribute [go_sem] Fj As5 TK.Aou D.Ajd Wn List.isEmpty_cons List.isEmpty_nil Bool.and_false Bool.false_and Option.some.injEq reduceCtorEq if_true if_false
attribute [go_sem] Tl Mu Ke npT D.WB List.any_cons List.any_nil Bool.or_self Bool.false_or Bool.or_false Bool.true_or Bool.or_true Bool.false_eq_true
attribute [go_sem] List.getElem?_toArray List.size_toArray true_and and_true Option.getD_some Option.getD_none Nat.zero_add List.map_cons List.map_nil Option.bind_some Option.bind_none List.getElem?_cons_zero List.getElem?_cons_succ List.getElem?_nil List.length_cons List.length_nil List.cons_append List.nil_append List.append_nil List.all_cons List.all_nil Bool.and_self Option.isSome_some List.nodup_nil List.drop_zero List.take_zero List.drop_succ_cons List.take_succ_cons List.drop_nil List.take_nil beq_self_eq_true beq_true beq_false Bool.not_true Bool.not_false Option.map_some Option.map_none Bool.true_and Bool.and_true List.replicate_succ List.replicate_zero ne_eq not_false_eq_true not_true_eq_false and_self
end
end Go.Am
namespace Go.Am
open Go
def Np(o:Op):Bool:=
 match o with
 | .call c=>match c.callee with
   | .builtin .len | .builtin .min | .builtin .max=>true
   | _=>false
 | .alloc _ | .box _ _ | .store _ _ _ | .buildSlice _ _ _ | .makeSlice _ _ _ | .makeMap _ _ | .mapUpdate _ _ _ _=>false
 | _=>true
section
variable {P:Program} {c:Ctx} {st:St} {a:Act} {w:World} {F:Nat->Prop} {M:Nat->Mb}
theorem Adr(hr:Rel c st a w F M){o:Oper}(hv:Np o.op=true){K:St->Prop}(h:PT P false o K st):
   ∃d v,K (st.put o.dst d)/\DR F w M (sg st.hp) d v/\(execOp a.eval o).run P w= .ok (.value v) w:=by
 have hn:C4 o.op=none:=by
   cases ho:o.op<;>simp only[ho,Np] at hv<;>simp only[C4];rename_i cl;cases hc:cl.callee<;>simp only[hc] at hv
   . exact (AI hv).elim
   . rfl
   . rfl
 unfold PT at h;rw[hn] at h;simp only at h;rcases Rs.FL h with h | h
 case inr=>exact (AI h.1).elim
 unfold JQ at h;split at h
 . rename_i cl ho;rw[ho] at hv;split at h
   . rename_i b hb;have hbb:=K7 (k:=λ d h=>K (({st with hp:=h}:St).put o.dst d)) h;simp only[Np,hb] at hv;unfold Mw at hbb;generalize hl:cl.args.toList.map (ev st)=l at hbb;split at hbb
     . obtain ⟨xq,Hn,rfl⟩:=Yf hl;split at hbb
       case h_2=>exact hbb.elim
       rename_i t ht;obtain ⟨d,v,h1,h2,h3⟩:=SL (P:=P) hbb (B9 hr xq) cl.argTypes o.type ht;exact ⟨d,v,h1,h2,by simp[execOp,ho,hb,resolve,invoke,builtin,Hn,h3]⟩
     . simp at hv
     . simp at hv
     . obtain ⟨d,h',v,w',M',hk,KD,hd,Dr⟩:=Mv hr ho hb (K7 (k:=λ d h=>K (({st with hp:=h}:St).put o.dst d)) h);rename_i k1 x k2 y;obtain ⟨xq,yq,Hn,hx,hy⟩:=H3 hl;obtain ⟨rfl,hk⟩:=hbb;have h1:=B9 hr xq;have h2:=B9 hr yq;rw[hx] at h1;rw[hy] at h2;generalize ML:a.eval xq=vx at h1;generalize hvy:a.eval yq=vy at h2;cases h1 with | p h1=>cases h1;cases h2 with | p h2=>
         cases h2;exact ⟨_,_,hk,.p (.int _ _),by simp[execOp,ho,hb,resolve,invoke,builtin,Hn,ML,hvy,run_min_int2]⟩
     . rename_i k1 x k2 y;obtain ⟨xq,yq,Hn,hx,hy⟩:=H3 hl;obtain ⟨rfl,hk⟩:=hbb;have h1:=B9 hr xq;have h2:=B9 hr yq;rw[hx] at h1;rw[hy] at h2;generalize ML:a.eval xq=vx at h1;generalize hvy:a.eval yq=vy at h2;cases h1 with | p h1=>cases h1;cases h2 with | p h2=>
         cases h2;exact ⟨_,_,hk,.p (.int _ _),by simp[execOp,ho,hb,resolve,invoke,builtin,Hn,ML,hvy,run_max_int2]⟩
     . exact hbb.elim
   . exact h.elim
 . rename_i ho;rw[ho] at hv;simp[Np] at hv
 . rename_i ho;rw[ho] at hv;simp[Np] at hv
 . rename_i ho;rw[ho] at hv;simp[Np] at hv
 . rename_i ho;rw[ho] at hv;simp[Np] at hv
 . rename_i ho;rw[ho] at hv;simp[Np] at hv
 . rename_i ho;rw[ho] at hv;simp[Np] at hv
 . rename_i ho;rw[ho] at hv;simp[Np] at hv
 . have h1:=XL (Rs.B7 (λ d hd=>hd.2) (Rs.all_bind h));exact UA hr h1
end
end Go.Am
namespace Go.Am
open Go
mutual
theorem PY {ρ:Nat->Option Nat}:∀{d:D},(∀id∈d.ids,ρ id=some id)->d.Ea ρ=d
  | .p _,_=>rfl
  | .agg cs,h=>by simp only[D.Ea];rw[OK (cs:=cs) h]
  | .De cs,h=>by simp only[D.Ea];rw[OK (cs:=cs) h]
  | .cl _,_=>rfl
  | .cz _,_=>rfl
  | .ref id _ _ _,h=>by simp only[D.Ea];rw[h id (by simp[D.ids])]
  | .ptr id _,h=>by simp only[D.Ea];rw[h id (by simp[D.ids])]
  | .pe _,_=>rfl
  | .ea id _ _ _,h=>by simp only[D.Ea];rw[h id (by simp[D.ids])]
  | .fn f cs,h=>by simp only[D.Ea];rw[OK (cs:=cs) h]
  | .np,_=>rfl
  | .mv id,h=>by simp only[D.Ea];rw[h id (by simp[D.ids])]
  | .Dk id _,h=>by simp only[D.Ea];rw[h id (by simp[D.ids])]
  | .Ls id _ _,h=>by simp only[D.Ea];rw[h id (by simp[D.ids])]
  | .nr id _ _ _,h=>by simp only[D.Ea];rw[h id (by simp[D.ids])]
  | .PU,_=>rfl
  | .bad,_=>rfl
theorem OK {ρ:Nat->Option Nat}:∀{cs:List D},(∀id∈C6 cs,ρ id=some id)->HW ρ cs=cs
  | [],_=>rfl
  | d::r,h=>by
    simp only[HW];rw[PY (d:=d) (λ id hi=>h id (by simp[C6,hi])),OK (cs:=r) (λ id hi=>h id (by simp[C6,hi]))]
end
def T1(env:List (Nat×D)):List (Nat×D)->Prop
 | []=>True
 | (t,d)::r=>get env t=some d/\T1 env r
def C5(h:Hp):Hp->Prop
 | []=>True
 | (id,o)::r=>get h id=some o/\C5 h r
def Ej:List (Nat×D)->List Nat
 | []=>[]
 | (_,d)::r=>d.ids++Ej r
def DL:Hp->List Nat
 | []=>[]
 | (_,o)::r=>o.ids++DL r
def F7(h1:Hp):Hp->Prop
 | []=>True
 | (id,o)::r=>(base<=id->get h1 id=some o)/\F7 h1 r
def Le(st st1:St):Prop:=
 st1.n=st.n/\T1 st.env st1.env/\C5 st.hp st1.hp/\((Ej st1.env++DL st1.hp).all λ id=>(get st1.hp id).isSome)=true/\F7 st1.hp st.hp
theorem T1.spec{env:List (Nat×D)}:∀{e1:List (Nat×D)},T1 env e1->∀t d,get e1 t=some d->get env t=some d
 | [],_,t,d,h=>by simp[get] at h
 | (k,x)::r,hl,t,d,h=>by
   rw[Cb] at h;split at h
   . rename_i e;subst e;cases h;exact hl.1
   . exact hl.2.spec t d h
theorem C5.spec{h:Hp}:∀{h1:Hp},C5 h h1->∀id o,get h1 id=some o->get h id=some o
 | [],_,t,d,hg=>by simp[get] at hg
 | (k,x)::r,hl,t,d,hg=>by
   rw[Cb] at hg;split at hg
   . rename_i e;subst e;cases hg;exact hl.1
   . exact hl.2.spec t d hg
theorem F7.spec{h1:Hp}:∀{h:Hp},F7 h1 h->∀id o,base<=id->get h id=some o->get h1 id=some o
 | [],_,t,d,_,hg=>by simp[get] at hg
 | (k,x)::r,hl,t,d,hb,hg=>by
   rw[Cb] at hg;split at hg
   . rename_i e;subst e;cases hg;exact hl.1 hb
   . exact hl.2.spec t d hb hg
theorem Tm:∀{env:List (Nat×D)} {t:Nat} {d:D} {id:Nat},get env t=some d->id∈d.ids->id∈Ej env
 | [],t,d,id,h,_=>by simp[get] at h
 | (k,x)::r,t,d,id,h,hi=>by
   rw[Cb] at h;simp only[Ej,Au];split at h
   . cases h;exact .inl hi
   . exact .inr (Tm h hi)
theorem Qn:∀{h:Hp} {j:Nat} {o:AO} {id:Nat},get h j=some o->id∈o.ids->id∈DL h
 | [],t,d,id,h,_=>by simp[get] at h
 | (k,x)::r,t,d,id,h,hi=>by
   rw[Cb] at h;simp only[DL,Au];split at h
   . cases h;exact .inl hi
   . exact .inr (Qn h hi)
theorem AO.PY{ρ:Nat->Option Nat}{o:AO}(h:∀id∈o.ids,ρ id=some id):o.Ea ρ=o:=by
 cases o with
 | box cs ty=>simp only[AO.Ea];rw[OK (cs:=cs) h]
 | _=>rfl
theorem Wk.refl(st:St):Wk st st:=λ _ _ _ F M h=>⟨F,M,h⟩
theorem Wk.trans{a b c:St}(h:Wk a b)(h':Wk b c):Wk a c:=λ x y w F M hr=>let ⟨F1,M1,h1⟩:=h x y w F M hr;h' x y w F1 M1 h1
theorem Rel.forget{c:Ctx}{st st1:St}{a:Act}{w:World}{F:Nat->Prop}{M:Nat->Mb}(hr:Rel c st a w F M)(h:Le st st1):Rel c st1 a w F M:=by
 have hc:=hr.keep.Z9;obtain ⟨hn,hE,hH,At3,hK⟩:=h;have Nq:∀id,id∈Ej st1.env++DL st1.hp->∃o,get st1.hp id=some o:=λ id hi=>BE.1 (AB.1 At3 id hi)
 let ρ:Nat->Option Nat:=λ id=>if (get st1.hp id).isSome then some id else none
 have hρ:∀id j,ρ id=some j->sg st.hp id≠none->M j=M id/\sg st1.hp j=sg st.hp id:=by
   intro id j hj _;simp only[ρ] at hj;split at hj
   . rename_i hs;simp only[Al] at hj;subst hj;obtain ⟨o,ho⟩:=BE.1 hs;refine ⟨rfl,?_⟩;simp[sg,ho,hH.spec _ _ ho]
   . cases hj
 have hid:∀id,(∃o,get st1.hp id=some o)->ρ id=some id:=λ id ⟨o,ho⟩=>by simp[ρ,ho]
 constructor
 . intro t d ht;have:=(hr.env t d (hE.spec t d ht)).Ea (M':=M) hρ;rwa[PY (λ id hi=>hid id (Nq id (BL _ (Tm ht hi))))] at this
 . rw[hn];exact hr.size
 . exact hr.defers
 . constructor
   . intro id o ho;have:=(hr.heap.obj id o (hH.spec id o ho)).Ea (M':=M) hρ;rwa[AO.PY (λ i hi=>hid i (Nq i (List.mem_append_right _ (Qn ho hi))))] at this
   . intro id o N1 o' b ho MM CC Eh;exact hr.heap.inj id o N1 o' b (hH.spec _ _ ho) (hH.spec _ _ MM) CC Eh
 . have hk:=hr.keep;refine ⟨hk.os,hk.tape,hk.output,hk.size,hk.Lz,hk.F0,hk.Fn,hk.Fl,?_,?_,hk.Z9⟩
   . rintro b ⟨id,o,ho,CC⟩;exact hk.own _ ⟨id,o,hH.spec _ _ ho,CC⟩
   . have GY:=hk.UM;have Ci:∀id,c.s0 id≠none->sg st.hp id≠none->sg st1.hp id=sg st.hp id:=by
       intro id h0 h1;have hb:=hc id h0;cases ho:get st.hp id with
       | none=>exact (h1 (by simp[sg,ho])).elim
       | some o=>simp[sg,ho,hK.spec id o hb ho]
     refine ⟨λ id hi=>?_,λ id sz n hi=>?_,λ id sz n kk hi=>?_⟩
     . obtain ⟨h1,h2⟩:=GY.1 id hi;exact ⟨by rw[Ci id (by rw[hi];simp) (by rw[h1];simp)];exact h1,h2⟩
     . obtain ⟨n',h1,h2,h3⟩:=GY.2.1 id sz n hi;exact ⟨n',by rw[Ci id (by rw[hi];simp) (by rw[h1];simp)];exact h1,h2,h3⟩
     . obtain ⟨n',k',h1,h2⟩:=GY.2.2 id sz n kk hi;exact ⟨n',k',by rw[Ci id (by rw[hi];simp) (by rw[h1];simp)];exact h1,h2⟩
theorem Wk.forget{st st1:St}(h:Le st st1):Wk st st1:=λ _ _ _ F M hr=>⟨F,M,hr.forget h⟩
section
variable {P:Program} {st:St} {x:Code} {k:Kt}
theorem Wk.nil{t q sz:Nat}(e:TypeId)(ht:get st.env t=some (.cl []))(hq:get st.hp q=none)(hs:0<sz):Wk st ⟨(t,.ref q 0 0 0)::st.env,(q,.arr e sz [])::st.hp,st.n⟩:=by
 intro c a w F M hr;obtain ⟨Ia,h1⟩:=hr.SC (e:=e) hq hs;refine ⟨F,_,⟨λ j d hj=>?_,Ia.size,Ia.defers,Ia.heap,Ia.keep⟩⟩;rw[Cb] at hj;split at hj
 . rename_i e1;subst e1;cases hj;have h2:=hr.env _ _ ht;generalize a.tmps.getD t undef=v at h2;cases h2 with | cl _ ad _ _=>exact h1 ad
 . exact Ia.env j d hj
theorem Ah2{st1:St}{n:Nat}(hw:Wk st st1)(h:L P x k n st1):L P x k n st:=by
 cases n with
 | zero=>exact h.elim
 | succ n=>obtain ⟨st2,h1,h2⟩:=h;exact ⟨st2,hw.trans h1,h2⟩
theorem B3{β:Type}(S:β->St)(I:β->Prop)(μ:β->Nat)(b0:β)(h0:I b0)(hw:Wk st (S b0))
   (hs:∀b n,I b->(∀b' st',I b'->μ b'<μ b->Wk st' (S b')->L P x k n st')->X P x (.lp x n k) (S b)):X P (.loop x) k st:=by
 have key:∀n b,I b->μ b<n->L P x k n (S b):=by
   intro n
   induction n with
   | zero=>intro b _ h;exact (A3 _ h).elim
   | succ n ih=>
     intro b hb hm;exact ⟨S b,Wk.refl _,hs b n hb λ b' st' Qw Cj HG=>Ah2 HG (ih b' Qw (by omega))⟩
 exact Xl _ (Ah2 hw (key (μ b0+1) b0 h0 (Nat.lt_succ_self _)))
end
end Go.Am
namespace Go.Am
open Go
def Rt(h0:List Nat)(hp:Hp)(d:D)(R:Hp->D->Prop)(T:List Nat):Prop:=
 T.Nodup/\(T.all λ id=>(get hp id).isSome)=true/\(h0.all λ id=>base<=id&&T.contains id)=true/\(T.filter (· <base)).length<=base/\
 R (pick hp (NL T) T) (d.Ea (NL T))
theorem Ao6(h0:List Nat)(hp:Hp)(d:D)(R:Hp->D->Prop):NN h0 hp d R=Rt h0 hp d R (DF hp (h0++d.ids)):=nd rfl
def Ep(h0:List Nat)(R:Hp->D->Prop)(r:Rs (D×Hp)):Prop:=r.all λ x=>NN h0 x.2 x.1 R
theorem Au9(h0:List Nat)(R:Hp->D->Prop)(p:Prop)(d:D)(h:Hp):Ep h0 R (.ret p (d,h))=(p/\NN h0 h d R):=nd rfl
theorem BU{h0:List Nat}{hp:Hp}{d:D}{R:Hp->D->Prop}(h:Ep h0 R (CT hp d)):Tn h0 hp d R:=Ag1 h
theorem CR{h0:List Nat}{hp:Hp}{d:D}{R:Hp->D->Prop}(h:NN h0 hp d R):Tn h0 hp d R:=Alv h
theorem Ate(h0:List Nat)(hp:Hp)(x:Pd)(R:Hp->D->Prop):Tn h0 hp (.p x) R=NN h0 hp (.p x) R:=by
 unfold Tn;simp only[E2,bor,or_self]
attribute [go_sem] Ao6 Au9 Ate D.Ea HW
end Go.Am
end
