/- Texts of this proof, what it rests on, merged: part B. -/
import Derived.LoopN
import Derived.Scope
import Derived.Deep.Quiet
import Derived.Test.YtlfbkkljgighkaaGreatDoorSkA
section
set_option linter.unusedVariables false
set_option linter.unusedSimpArgs false
namespace Go.Am
open Go
def bor(h:Hp)(d:D)(k:D->Hp->Prop):Prop:=
 match d with
 | .ref id off len N=>match get h id with
   | some (.arr _ _ a)=>N=a.length/\k (.p (.sl ((a.drop off).take len))) (froze h id)
   | some (.Oh _ a)=>N=a.length/\k (.p (.sl ((a.drop off).take len))) h
   | _=>False
 | .E3 id n=>match get h id with
   | some (.Fc _ _ e b rows none)=>n=rows.length/\k (.p (.sl (rows.map λ r=>[.sl r]))) (Dn h id (.Ij (F7 (.Fc e rows.length b))))
   | _=>False
 | .cl a=>k (.p (.sl a)) h
 | d=>k d h
mutual
def HH (h:Hp) (d:D) (k:D->Hp->Prop):Prop:=
  match d with
  | .agg cs=>X9 h cs λ ds h'=>k (.agg ds) h'
  | .Em cs=>X9 h cs λ ds h'=>k (.Em ds) h'
  | d=>bor h d k
def X9:Hp->Ai->(Ai->Hp->Prop)->Prop
  | h,[],k=>k [] h
  | h,d::r,k=>HH h d λ x h'=>X9 h' r λ xs h''=>k (x::xs) h''
end
def Bd1(P:AK)(h:Hp)(t:AG)(x:D)(k:D->Prop):Prop:=
 match Dz P t with
 | some b=>match b.k,x with
   | .string,.p (.str l)=>k (.p (.int .i64 l.length))
   | .slice _,.p (.sl a)=>k (.p (.int .i64 a.length))
   | .slice _,.cl a=>k (.p (.int .i64 a.length))
   | .slice _,.ref id _ len N=>(match sg h id with | some (.arr _ m)=>N=m | _=>False)/\k (.p (.int .i64 len))
   | .slice _,.E3 _ n=>k (.p (.int .i64 n))
   | .slice _,.nr _ _ len _=>k (.p (.int .i64 len))
   | .array n _,_=>k (.p (.int .i64 n))
   | _,_=>False
 | none=>False
def TS(P:AK)(st:St)(q:Nat)(b:Builtin)(f:Array TypeId)(args:Ai)(k:D->Hp->Prop):Prop:=
 match b,args with
 | .len,[x]=>match f[0]? with
   | some t=>Bd1 P st.hp t x λ d=>k d st.hp
   | none=>False
 | .append,[s,x]=>match f[0]?,f[1]? with
   | some t,some i=>Bhk P st.hp q t i s x k
   | _,_=>False
 | .copy,[s,x]=>match f[0]?,f[1]? with
   | some t,some _=>Bgx P st.hp t s x k
   | _,_=>False
 | .min,[.p (.int a x),.p (.int e y)]=>a=e/\k (.p (.int a (if y<x then y else x))) st.hp
 | .max,[.p (.int a x),.p (.int e y)]=>a=e/\k (.p (.int a (if x<y then y else x))) st.hp
 | .min,[.p (.int a x),.p (.int e y),.p (.int g z)]=>(a=e/\e=g)/\k (.p (.int a (if z<(if y<x then y else x) then z else (if y<x then y else x)))) st.hp
 | _,_=>False
inductive Rs (α:Type) where
 | fail
 | ret (p:Prop) (a:α)
 | split (b:Bool) (x y:Rs α)
def Rs.all{α:Type}:Rs α->(α->Prop)->Prop
 | .fail,_=>False
 | .ret p a,k=>p/\k a
 | .split b x y,k=>WIf b (x.all k) (y.all k)
def Rs.and{α:Type}(p:Prop):Rs α->Rs α
 | .fail=> .fail
 | .ret q a=> .ret (p/\q) a
 | .split b x y=> .split b (x.and p) (y.and p)
def Rs.bind{α β:Type}:Rs α->(α->Rs β)->Rs β
 | .fail,_=> .fail
 | .ret p a,f=>(f a).and p
 | .split b x y,f=> .split b (x.bind f) (y.bind f)
theorem WIf.mono{b}{x y x' a:Prop}(h:WIf b x y)(hx:x->x')(f:y->a):WIf b x' a:=⟨λ e=>hx (h.1 e),λ e=>f (h.2 e)⟩
def Rs.OF{α:Type}(S:Prop):Rs α->(α->Prop)->Prop
 | .fail,_=>S
 | .ret p a,k=>p/\k a
 | .split b x y,k=>WIf b (x.OF S k) (y.OF S k)
theorem Rs.Jn{α:Type}{S:Prop}{k:α->Prop}:∀{r:Rs α},r.OF S k->r.all k∨S
 | .fail,h=> .inr h
 | .ret p a,h=> .inl h
 | .split b x y,h=>by
   cases b
   . rcases Rs.Jn (h.2 rfl) with f | f
     . exact .inl ⟨λ e=>(BV e).elim,λ _=>f⟩
     . exact .inr f
   . rcases Rs.Jn (h.1 rfl) with f | f
     . exact .inl ⟨λ _=>f,λ e=>(BV e.symm).elim⟩
     . exact .inr f
theorem Rs.GD{α:Type}{p:Prop}{k:α->Prop}:∀{r:Rs α},(r.and p).all k->p/\r.all k
 | .fail,h=>h.elim
 | .ret q a,h=>⟨h.1.1,h.1.2,h.2⟩
 | .split b x y,h=>by
   have f:b=true->p/\x.all k:=λ e=>Rs.GD (h.1 e);have h2:b=false->p/\y.all k:=λ e=>Rs.GD (h.2 e);refine ⟨?_,λ e=>(f e).2,λ e=>(h2 e).2⟩;cases b
   . exact (h2 rfl).1
   . exact (f rfl).1
theorem Rs.Dg{α:Type}{k k':α->Prop}(e:∀a,k a->k' a):∀{r:Rs α},r.all k->r.all k'
 | .fail,h=>h.elim
 | .ret q a,h=>⟨h.1,e _ h.2⟩
 | .split b x y,h=>WIf.mono h (Rs.Dg e) (Rs.Dg e)
theorem Rs.all_bind{α β:Type}{f}{k:β->Prop}:∀{r:Rs α},(r.bind f).all k->r.all (λ a=>(f a).all k)
 | .fail,h=>h.elim
 | .ret p a,h=>Rs.GD h
 | .split b x y,h=>WIf.mono h Rs.all_bind Rs.all_bind
def Agy(a:TI)(cs:Ai)(off:Nat):Rs D:=
 if a.k.isAgg then .ret (off+a.size<=cs.length) (.agg ((cs.drop off).take a.size))
 else match cs[off]? with
   | some d=> .ret True d
   | none=> .fail
theorem YF{a}{cs}{off}{k:D->Prop}(h:(Agy a cs off).all k):Ac9 a cs off k:=by
 unfold Agy at h;unfold Ac9;split at h
 . rename_i e;rw[if_pos e];exact h
 . rename_i e;rw[if_neg e];split at h<;>simp_all [Rs.all]
def VP(a:TI)(cs:Ax)(off:Nat):Rs D:=
 if a.k.isAgg then .ret (off+a.size<=cs.length) (.agg (((cs.drop off).take a.size).map D.p))
 else match cs[off]? with
   | some d=> .ret True (.p d)
   | none=> .fail
theorem Ri{a}{cs}{off}{k:D->Prop}(h:(VP a cs off).all k):Vg a cs off k:=by
 unfold VP at h;unfold Vg;split at h
 . rename_i e;rw[if_pos e];exact h
 . rename_i e;rw[if_neg e];split at h<;>simp_all [Rs.all]
def Tf(P:AK)(h:Hp)(t:AG)(d:D):Rs D:=
 match Dz P t,d with
 | some a,.ptr id off=>match get h id with
   | some (.box cs _)=>Agy a cs off
   | _=> .fail
 | some a,.pe cs=>VP a cs 0
 | some a,.ea id i c N=>match get h id with
   | some (.arr _ _ b)=>(VP a (b.getD i []) c).and (N=b.length)
   | some (.Oh _ b)=>(VP a (b.getD i []) c).and (N=b.length)
   | some (.Yo _ _ b f e d)=> .split (decide (i=f/\c=e)) (.ret (N=b.length/\a.k.isAgg=false) d) ((VP a (b.getD i []) c).and (N=b.length/\a.k.isAgg=false))
   | _=> .fail
 | some a,.R9 id i n=>match get h id with
   | some (.Fc _ _ _ g rows hole)=> .ret (n=rows.length/\hole≠some i/\a.k.isAgg=false) (.nr id i (rows.getD i []).length g)
   | _=> .fail
 | _,_=> .fail
theorem Ah7{P}{h}{t}{d}{k:D->Prop}(a:(Tf P h t d).all k):Ah8 P h t d k:=by
 unfold Tf at a;unfold Ah8;split at a
 . rename_i b;simp only[b];split at a
   . rename_i h2;simp only[h2];exact YF a
   . exact a.elim
 . rename_i b;simp only[b];exact Ri a
 . rename_i b;simp only[b];split at a
   . rename_i h2;simp only[h2];exact ⟨(Rs.GD a).1,Ri (Rs.GD a).2⟩
   . rename_i h2;simp only[h2];exact ⟨(Rs.GD a).1,Ri (Rs.GD a).2⟩
   . rename_i h2;simp only[h2];exact WIf.mono a id λ a=>⟨(Rs.GD a).1,Ri (Rs.GD a).2⟩
   . exact a.elim
 . rename_i b;simp only[b];split at a
   . rename_i h2;simp only[h2];exact a
   . exact a.elim
 . exact a.elim
def Bkb(g:BinOp)(x y:D):Rs D:=
 match g,x,y with
 | .add,.p (.int e a),.p (.int f b)=> .ret (e=f) (.p (.int e (e.wrap (a+b))))
 | .sub,.p (.int e a),.p (.int f b)=> .ret (e=f) (.p (.int e (e.wrap (a - b))))
 | .mul,.p (.int e a),.p (.int f b)=> .ret (e=f) (.p (.int e (e.wrap (a*b))))
 | .quo,.p (.int e a),.p (.int f b)=> .ret (e=f/\b≠0) (.p (.int e (e.wrap (a.tdiv b))))
 | .rem,.p (.int e a),.p (.int f b)=> .ret (e=f/\b≠0) (.p (.int e (a.tmod b)))
 | .eql,.p (.int e a),.p (.int f b)=> .ret (e=f) (.p (.bool (decide (a=b))))
 | .neq,.p (.int e a),.p (.int f b)=> .ret (e=f) (.p (.bool (!decide (a=b))))
 | .lss,.p (.int e a),.p (.int f b)=> .ret (e=f) (.p (.bool (decide (a<b))))
 | .leq,.p (.int e a),.p (.int f b)=> .ret (e=f) (.p (.bool (decide (a<=b))))
 | .gtr,.p (.int e a),.p (.int f b)=> .ret (e=f) (.p (.bool (decide (b<a))))
 | .geq,.p (.int e a),.p (.int f b)=> .ret (e=f) (.p (.bool (decide (b<=a))))
 | .and,.p (.int e a),.p (.int f b)=> .ret (e=f) (.p (.int e (e.wrap (BitVec.ofInt e.bits a&&& BitVec.ofInt e.bits b).toNat)))
 | .shr,.p (.int e a),.p (.int _ b)=> .ret (0<=b) (.p (.int e (a.fdiv (2 ^ (min b.toNat e.bits)))))
 | .add,.p (.str a),.p (.str b)=> .ret (a.length+b.length<=maxLen) (.p (.str (a++b)))
 | .eql,.p (.str a),.p (.str b)=> .ret True (.p (.bool (decide (a=b))))
 | .neq,.p (.str a),.p (.str b)=> .ret True (.p (.bool (!decide (a=b))))
 | _,_,_=> .fail
theorem Bhc{a}{x y}{k:D->Prop}(h:(Bkb a x y).all k):Bkc a x y k:=by
 unfold Bkb at h;split at h<;>first
   | exact h.elim
   | exact h
   | exact ⟨h.1.1,h.1.2,h.2⟩
   | exact h.2
def Avc(P:AK)(f:BinOp)(t:AG)(x y:D):Rs D:=
 match f,x,y with
 | .eql,.p (.bool a),.p (.bool b)=>(match Dz P t with | some ⟨_,_,.bool,_⟩=> .ret True (.p (.bool (a==b))) | _=> .fail)
 | .neq,.p (.bool a),.p (.bool b)=>(match Dz P t with | some ⟨_,_,.bool,_⟩=> .ret True (.p (.bool (!(a==b)))) | _=> .fail)
 | .eql,.agg g,.agg i=>(match Adn P t g i with | some b=> .ret True (.p (.bool b)) | none=> .fail)
 | .neq,.agg g,.agg i=>(match Adn P t g i with | some b=> .ret True (.p (.bool (!b))) | none=> .fail)
 | .eql,.p (.sl e),.cl []=>(match Dz P t with | some ⟨_,_,.slice _,_⟩=> .ret (e≠[]) (.p (.bool false)) | _=> .fail)
 | .eql,.cl e,.cl []=>(match Dz P t with | some ⟨_,_,.slice _,_⟩=> .ret True (.p (.bool e.isEmpty)) | _=> .fail)
 | f,x,y=>Bkb f x y
theorem Bb1{P}{b}{t}{x y}{k:D->Prop}(h:(Avc P b t x y).all k):TU P b t x y k:=by
 unfold Avc at h;split at h
 . split at h
   . rename_i a;simp only[TU,a];exact h.2
   . exact h.elim
 . split at h
   . rename_i a;simp only[TU,a];exact h.2
   . exact h.elim
 . split at h
   . rename_i a;simp only[TU,a];exact h.2
   . exact h.elim
 . split at h
   . rename_i a;simp only[TU,a];exact h.2
   . exact h.elim
 . split at h
   . rename_i a;simp only[TU,a];exact h
   . exact h.elim
 . split at h
   . rename_i a;simp only[TU,a];exact h.2
   . exact h.elim
 . rename_i e f g i j l;have h2:=Bhc h;unfold TU;split
   . exact (e _ _ rfl rfl rfl).elim
   . exact (f _ _ rfl rfl rfl).elim
   . exact (g _ _ rfl rfl rfl).elim
   . exact (i _ _ rfl rfl rfl).elim
   . exact (j _ rfl rfl rfl).elim
   . exact (l _ rfl rfl rfl).elim
   . exact h2
def unR(e:UnOp)(x:D):Rs D:=
 match e,x with
 | .not,.p (.bool b)=> .ret True (.p (.bool (!b)))
 | .neg,.p (.int a n)=> .ret True (.p (.int a (a.wrap (0 - n))))
 | _,_=> .fail
theorem Bij{a}{x}{k:D->Prop}(h:(unR a x).all k):unD a x k:=by
 unfold unR at h;split at h<;>first | exact h.elim | exact h.2
def Aul(c a b:D):Rs D:=
 match c,a,b with
 | .p (.bool t),.p (.bool x),.p (.bool y)=> .ret True (.p (.bool (if t then x else y)))
 | .p (.bool t),a,b=> .split t (.ret True a) (.ret True b)
 | _,_,_=> .fail
theorem Awf{c x y}{k:D->Prop}(h:(Aul c x y).all k):An9 c x y k:=by
 unfold Aul at h;unfold An9;split at h
 . exact h.2
 . rename_i t a b EG;split
   . rename_i g i j;exact (EG _ _ rfl rfl).elim
   . rename_i e _;cases e;exact WIf.mono h (λ h=>h.2) (λ h=>h.2)
   . rename_i f _;exact (f _ rfl).elim
 . exact h.elim
def Av9(P:AK)(s d:AG)(x:D):Rs D:=
 match Dz P s,Dz P d,x with
 | some _,some ⟨_,_,.int a,_⟩,.p (.int _ n)=> .ret True (.p (.int a (a.wrap n)))
 | some _,some ⟨_,_,.string,_⟩,.p (.str l)=> .ret True (.p (.str l))
 | some ⟨_,_,.slice e,_⟩,some ⟨_,_,.string,_⟩,.p (.sl b)=>match Dz P e,Aam b with
   | some ⟨_,_,.int .u8,_⟩,some l=> .ret True (.p (.str l))
   | _,_=> .fail
 | _,_,_=> .fail
theorem Bap{P}{s d}{x}{k:D->Prop}(h:(Av9 P s d x).all k):Aq4 P s d x k:=by
 unfold Av9 at h;unfold Aq4;split at h
 . rename_i a h2;simp only[a,h2];exact h.2
 . rename_i a h2;simp only[a,h2];exact h.2
 . rename_i a h2;simp only[a,h2];split at h
   . rename_i b e;simp only[b,e];exact h.2
   . exact h.elim
 . exact h.elim
def Atl(h:Hp)(id N:Nat):Prop:=match sg h id with | some (.arr _ m)=>N=m | _=>False
def Kl(P:AK)(t:AG)(x:D)(f:Nat)(h:Hp):Rs D:=
 match Dz P t with
 | some ⟨_,_,.struct b,_⟩=>match b[f]? with
   | some (o,u)=>match Dz P u with
     | some a=>match x with
       | .ptr id off=> .ret (a.size≠0) (.ptr id (off+o))
       | .pe cs=> .ret (a.size≠0) (.pe (cs.drop o))
       | .ea id i c N=> .ret (a.size≠0/\Atl h id N) (.ea id i (c+o) N)
       | _=> .fail
     | none=> .fail
   | none=> .fail
 | _=> .fail
theorem Adi{P}{t}{x}{f}{h}{k:D->Prop}(a:(Kl P t x f h).all k):Oj P t x f h k:=by
 unfold Kl at a;unfold Oj;split at a
 . rename_i b;simp only[b];split at a
   . rename_i h2;simp only[h2];split at a
     . rename_i e;simp only[e];split at a
       . exact a
       . exact a
       . exact ⟨a.1.1,a.1.2,a.2⟩
       . exact a.elim
     . exact a.elim
   . exact a.elim
 . exact a.elim
def Akr(P:AK)(t:AG)(x:D)(f:Nat):Rs D:=
 match Dz P t with
 | some ⟨_,_,.struct a,_⟩=>match a[f]?,x with
   | some (o,u),.agg cs=>match Dz P u with
     | some b=>Agy b cs o
     | none=> .fail
   | _,_=> .fail
 | _=> .fail
theorem Asv{P}{t}{x}{f}{k:D->Prop}(a:(Akr P t x f).all k):Adh P t x f k:=by
 unfold Akr at a;unfold Adh;split at a
 . rename_i b;simp only[b];split at a
   . rename_i h2;simp only[h2];split at a
     . rename_i e;simp only[e];exact YF a
     . exact a.elim
   . exact a.elim
 . exact a.elim
def HN(P:AK)(t:AG)(x i:D)(h:Hp):Rs D:=
 match Dz P t,i with
 | some ⟨_,_,.slice e,_⟩,.p (.int _ n)=>match Dz P e with
   | some a=>match x with
     | .p (.sl b)=> .ret ((0<=n/\n<b.length)/\(b.getD n.toNat []).length=a.size) (.pe (b.getD n.toNat []))
     | .cl b=> .ret ((0<=n/\n<b.length)/\(b.getD n.toNat []).length=a.size) (.pe (b.getD n.toNat []))
     | .ref id off len N=>match sg h id with
       | some (.arr f m)=> .ret ((0<=n/\n<len)/\f=a.size/\N=m) (.ea id (off+n.toNat) 0 N)
       | _=> .fail
     | .E3 id N=> .ret ((0<=n/\n<N)/\a.size=1) (.R9 id n.toNat N)
     | _=> .fail
   | none=> .fail
 | some ⟨_,_,.array m e,_⟩,.p (.int _ n)=>match Dz P e,x with
   | some a,.ptr id off=> .ret (0<=n/\n<m) (.ptr id (off+n.toNat*a.size))
   | some a,.pe cs=> .ret (0<=n/\n<m) (.pe (cs.drop (n.toNat*a.size)))
   | _,_=> .fail
 | _,_=> .fail
theorem Acu{P}{t}{x i}{h}{k:D->Prop}(a:(HN P t x i h).all k):Oe P t x i h k:=by
 unfold HN at a;unfold Oe;split at a
 . rename_i b;simp only[b];split at a
   . rename_i h2;simp only[h2];split at a
     . exact ⟨a.1.1,a.1.2,a.2⟩
     . exact ⟨a.1.1,a.1.2,a.2⟩
     . split at a
       . rename_i e;simp only[e];exact ⟨a.1.1,a.1.2.1,a.1.2.2,a.2⟩
       . exact a.elim
     . exact ⟨a.1.1,a.1.2,a.2⟩
     . exact a.elim
   . exact a.elim
 . rename_i b;simp only[b];split at a
   . rename_i h2;simp only[h2];exact a
   . rename_i h2;simp only[h2];exact a
   . exact a.elim
 . exact a.elim
def Aki(P:AK)(t:AG)(x i:D):Rs D:=
 match Dz P t,x,i with
 | some ⟨_,_,.string,_⟩,.p (.str l),.p (.int _ n)=> .ret (0<=n/\n<l.length) (.p (.int .u8 (l.getD n.toNat 0).toNat))
 | some ⟨_,_,.array m e,_⟩,.agg cs,.p (.int _ n)=>match Dz P e with
   | some a=>(Agy a cs (n.toNat*a.size)).and (0<=n/\n<m)
   | none=> .fail
 | _,_,_=> .fail
theorem Asf{P}{t}{x i}{k:D->Prop}(a:(Aki P t x i).all k):Acs P t x i k:=by
 unfold Aki at a;unfold Acs;split at a
 . rename_i b;simp only[b];exact a
 . rename_i b;simp only[b];split at a
   . rename_i h2;simp only[h2];exact ⟨(Rs.GD a).1,YF (Rs.GD a).2⟩
   . exact a.elim
 . exact a.elim
def GY(st:St)(o:Option Operand)(Al8:Int):Rs Int:=
 match o with
 | none=> .ret True Al8
 | some x=>match ev st x with
   | .p (.int _ n)=> .ret True n
   | _=> .fail
theorem Atq{st}{o}{n}{k:Int->Prop}(h:(GY st o n).all k):Ic st o n k:=by
 unfold GY at h;unfold Ic;split at h
 . exact h.2
 . split at h
   . rename_i a;simp only[a];exact h.2
   . exact h.elim
def PX(n:Nat)(es:Ag):Prop:=∀e∈es,e.length=n
theorem PX.get{n}{es}(h:PX n es):∀(i:Nat) e,es[i]?=some e->e.length=n:=λ _ e a=>h e (Bt a)
def LV(P:AK)(st:St)(t:AG)(x:D)(i g j:Option Operand):Rs D:=
 match Dz P t,x with
 | some ⟨_,_,.string,_⟩,.p (.str l)=>(GY st i 0).bind λ a=>(GY st g l.length).bind λ b=>
     .ret (j.isNone=true/\(0<=a/\a<=b/\b<=l.length)) (.p (.str ((l.take b.toNat).drop a.toNat)))
 | some ⟨_,_,.slice e,_⟩,x=>match Dz P e with
   | some k=>match x with
     | .p (.sl f)=>match j with
       | none=>(GY st i 0).bind λ a=>(GY st g f.length).bind λ b=> .ret ((0<=a/\a<=b/\b<=f.length)/\PX k.size f) (.p (.sl ((f.take b.toNat).drop a.toNat)))
       | some m=>(GY st i 0).bind λ a=>(GY st g f.length).bind λ b=>(GY st (some m) 0).bind λ c=>
           .ret ((0<=a/\a<=b/\b=c/\c<=f.length)/\PX k.size f/\g.isSome=true) (.cz ((f.take b.toNat).drop a.toNat))
     | .ref id off len N=>match sg st.hp id with
       | some (.arr n m)=>(GY st i 0).bind λ a=>(GY st g len).bind λ b=>
           .ret (j.isNone=true/\n=k.size/\(0<=a/\a<=b/\b<=len)/\N=m) (.ref id (off+a.toNat) (b - a).toNat N)
       | _=> .fail
     | _=> .fail
   | none=> .fail
 | _,_=> .fail
theorem bd{st}{o}{n}{f}{k:D->Prop}{k':Int->Prop}(h:((GY st o n).bind f).all k)(b:∀a,(f a).all k->k' a):Ic st o n k':=
 Atq (Rs.Dg b (Rs.all_bind h))
theorem Zh{st}{o}{n}{q:Prop}{k:Int->Prop}(h:Ic st o n (λ a=>q/\k a)):q/\Ic st o n k:=by
 unfold Ic at*;cases o with
 | none=>exact h
 | some x=>
   simp only at h ⊢;split at h
   . rename_i b;exact h
   . exact h.elim
theorem w9{st}{o}{n}{k k':Int->Prop}(b:∀a,k a->k' a)(h:Ic st o n k):Ic st o n k':=by
 unfold Ic at*;split at h
 . exact b _ h
 . split at h
   . exact b _ h
   . exact h.elim
theorem Arq{P}{st}{t}{x}{m l g}{k:D->Prop}(e:(LV P st t x m l g).all k):Abr P st t x m l g k:=by
 unfold LV at e;unfold Abr;split at e
 . rename_i f;simp only[f];refine Zh (bd e λ a h=>Zh (bd h λ b h=>?_));exact ⟨h.1.1,h.1.2,h.2⟩
 . rename_i f;split at e
   case h_2=>exact e.elim
   rename_i h2;split at e
   . rw[f];simp only[h2];split at e
     . exact bd e λ a h=>bd h λ b h=>⟨h.1.1,h.1.2.get,h.2⟩
     . exact bd e λ a h=>bd h λ b h=>bd h λ c h=>⟨h.1.1,h.1.2.1.get,h.1.2.2,h.2⟩
   . rw[f];simp only[h2];split at e
     . rename_i n;simp only[n];have o:=bd e λ a h=>bd h λ b h=>(⟨h.1.1,h.1.2.1,h.1.2.2.1,h.1.2.2.2,h.2⟩:g.isNone=true/\_/\_/\_/\_);have i:=Zh (w9 (λ a h=>Zh h) o);have j:=Zh (w9 (λ a h=>Zh h) i.2);exact ⟨i.1,j.1,j.2⟩
     . exact e.elim
   . exact e.elim
 . exact e.elim
def Aen(P:AK)(st:St)(t:AG)(parts:AF):Rs D:=
 match Dz P t with
 | some ⟨_,_,.struct f,z⟩=>
   match Rh P f,z with
   | some g,.agg a=>match J2 (λ i=>g[i]?) a (parts.map λ q=>(q.1,ev st q.2)) with
     | some cs=> .ret True (.agg cs)
     | none=> .fail
   | _,_=> .fail
 | some ⟨_,_,.array _ e,z⟩=>
   match Dz P e,z with
   | some b,.agg a=>match J2 (λ i=>some (i*b.size,b.size)) a (parts.map λ q=>(q.1,ev st q.2)) with
     | some cs=> .ret True (.agg cs)
     | none=> .fail
   | _,_=> .fail
 | _=> .fail
theorem Ato{P}{st}{t}{parts}{k:D->Prop}(a:(Aen P st t parts).all k):Aeo P st t parts k:=by
 unfold Aen at a;unfold Aeo;split at a
 . rename_i b;simp only[b];split at a
   . rename_i h2;simp only[h2];split at a
     . rename_i e;simp only[e];exact a.2
     . exact a.elim
   . exact a.elim
 . rename_i b;simp only[b];split at a
   . rename_i h2;simp only[h2];split at a
     . rename_i e;simp only[e];exact a.2
     . exact a.elim
   . exact a.elim
 . exact a.elim
def XG(x:D)(i:Nat):Rs D:=
 match x with
 | .Em cs=>match cs[i]? with
   | some d=> .ret True d
   | none=> .fail
 | _=> .fail
theorem Akw{x}{i}{k:D->Prop}(a:(XG x i).all k):Tr x i k:=by
 unfold XG at a;unfold Tr;split at a
 . split at a
   . rename_i b;simp only[b];exact a.2
   . exact a.elim
 . exact a.elim
def Xj(P:AK)(h:Hp)(t:AG)(x i:D)(a:Bool):Rs D:= .fail
theorem Anl{P}{h}{t}{x i}{a}{k:D->Prop}(b:(Xj P h t x i a).all k):Ake P h t x i a k:=False.elim b
def VU(P:AK)(h:Hp)(t:AG)(m i v:D):Rs Hp:= .fail
theorem As5{P}{h}{t}{m i v}{k:Hp->Prop}(a:(VU P h t m i v).all k):As6 P h t m i v k:=False.elim a
def NM(P:AK)(st:St)(e:Op):Rs D:=
 match e with
 | .move x | .assign x=> .ret True (ev st x)
 | .pick c a b=>Aul (ev st c) (ev st a) (ev st b)
 | .binOp e t x y _=>Avc P e t (ev st x) (ev st y)
 | .unOp e _ x=>unR e (ev st x)
 | .nilCheck x=>match ev st x with
   | .ptr id off=> .ret True (.ptr id off)
   | .pe cs=> .ret True (.pe cs)
   | .ea id i c N=> .ret (Atl st.hp id N) (.ea id i c N)
   | _=> .fail
 | .convert s d x=>Av9 P s d (ev st x)
 | .build t parts=>Aen P st t parts.toList
 | .load t a=>Tf P st.hp t (ev st a)
 | .slice t x j g k=>LV P st t (ev st x) j g k
 | .fieldAddr t x f=>Kl P t (ev st x) f st.hp
 | .field t x f=>Akr P t (ev st x) f
 | .indexAddr t x i=>HN P t (ev st x) (ev st i) st.hp
 | .index t x i=>Aki P t (ev st x) (ev st i)
 | .extract t i=>XG (ev st t) i
 | .lookup t x i l=>Xj P st.hp t (ev st x) (ev st i) l
 | .makeFunc (.func f) first cap=> .ret (first.size=0) (.fn f (cap.toList.map (ev st)))
 | .makeInterface t x=>match ifD P t (ev st x) with
   | some d=> .ret True d
   | none=> .fail
 | .typeAssert x _ t true=>match asD P t (ev st x) with
   | some d=> .ret True d
   | none=> .fail
 | _=> .fail
theorem Amb{P}{st}{e}{k:D->Prop}(a:(NM P st e).all k):vOp P st e k:=by
 unfold NM at a;unfold vOp;split at a
 . exact a.2
 . exact a.2
 . exact Awf a
 . exact Bb1 a
 . exact Bij a
 . split at a
   . rename_i b;simp only[b];exact a.2
   . rename_i b;simp only[b];exact a.2
   . rename_i b;simp only[b];exact a
   . exact a.elim
 . exact Bap a
 . exact Ato a
 . exact Ah7 a
 . exact Arq a
 . exact Adi a
 . exact Asv a
 . exact Acu a
 . exact Asf a
 . exact Akw a
 . exact Anl a
 . exact a
 . split at a
   . rename_i b;simp only[b];exact a.2
   . exact a.elim
 . split at a
   . rename_i b;simp only[b];exact a.2
   . exact a.elim
 . exact a.elim
def Afh(h:Hp)(d:D):Rs (Pd×Hp):=
 match d with
 | .p x=> .ret True (x,h)
 | .cl a=> .ret True (.sl a,h)
 | .cz a=> .ret True (.sl a,h)
 | .ref id off len N=>match get h id with
   | some (.arr _ _ a)=> .ret (N=a.length) (.sl ((a.drop off).take len),froze h id)
   | some (.Oh _ a)=> .ret (N=a.length) (.sl ((a.drop off).take len),h)
   | _=> .fail
 | .E3 id n=>match get h id with
   | some (.Fc _ _ e b rows none)=> .ret (n=rows.length) (.sl (rows.map λ r=>[.sl r]),Dn h id (.Ij (F7 (.Fc e rows.length b))))
   | _=> .fail
 | _=> .fail
theorem Bcm{h}{d}{k:Pd->Hp->Prop}(a:(Afh h d).all (λ x=>k x.1 x.2)):PG h d k:=by
 unfold Afh at a;unfold PG;split at a
 . exact a.2
 . exact a.2
 . exact a.2
 . split at a
   . rename_i b;simp only[b];exact a
   . rename_i b;simp only[b];exact a
   . exact a.elim
 . split at a
   . rename_i b;simp only[b];exact a
   . exact a.elim
 . exact a.elim
def MC:Hp->Ai->Rs (Ax×Hp)
 | h,[]=> .ret True ([],h)
 | h,d::r=>(Afh h d).bind λ x=>(MC x.2 r).bind λ y=> .ret True (x.1::y.1,y.2)
theorem Agv{h}{d}{k k':Pd->Hp->Prop}(b:∀x h,k x h->k' x h)(a:PG h d k):PG h d k':=by
 unfold PG at*;cases d with
 | p x=>exact b _ _ a
 | cl e=>exact b _ _ a
 | cz e=>exact b _ _ a
 | ref id off len N=>
   simp only at a ⊢;split at a
   . exact ⟨a.1,b _ _ a.2⟩
   . exact ⟨a.1,b _ _ a.2⟩
   . exact a.elim
 | E3 id n=>
   simp only at a ⊢;split at a
   . exact ⟨a.1,b _ _ a.2⟩
   . exact a.elim
 | _=>exact a
theorem Rg:∀{ds:Ai} {h:Hp} {k k':Ax->Hp->Prop},(∀x h,k x h->k' x h)->Lx h ds k->Lx h ds k'
 | [],h,k,k',b,a=>b _ _ a
 | d::r,h,k,k',b,a=>Agv (λ x g f=>Rg (λ i e h2=>b _ _ h2) f) a
theorem Ags:∀{ds:Ai} {h:Hp} {k:Ax->Hp->Prop},(MC h ds).all (λ x=>k x.1 x.2)->Lx h ds k
 | [],h,k,a=>a.2
 | d::r,h,k,a=>by
   simp only[MC] at a;exact Bcm (Rs.Dg (λ x b=>Ags (Rs.Dg (λ y h2=>h2.2) (Rs.all_bind b))) (Rs.all_bind a))
theorem VN{ds}{h}{K:Ax×Hp->Prop}(a:(MC h ds).all K):Lx h ds (λ x h=>K (x,h)):=Ags (k:=λ x h=>K (x,h)) a
def Afe(h:Hp)(d:D):Rs Ag:=
 match d with
 | .p (.sl b)=> .ret True b
 | .p (.str l)=> .ret True (Gz l)
 | .cl b=> .ret True b
 | .ref id off len N=>match get h id with
   | some (.arr _ _ a)=> .ret (N=a.length) ((a.drop off).take len)
   | some (.Oh _ a)=> .ret (N=a.length) ((a.drop off).take len)
   | _=> .fail
 | _=> .fail
theorem Bcb{h}{d}{k:Ag->Prop}(a:(Afe h d).all k):R6 h d k:=by
 unfold Afe at a;unfold R6;split at a
 . exact a.2
 . exact a.2
 . exact a.2
 . split at a
   . rename_i b;simp only[b];exact a
   . rename_i b;simp only[b];exact a
   . exact a.elim
 . exact a.elim
def Ajt{α:Type}:Nat->Rs α->Rs α
 | 0,r=>r
 | _+1,_=> .fail
theorem VF{α:Type}{n}{r}{k:α->Prop}(h:(Ajt n r).all k):n=0/\r.all k:=by
 cases n with
 | zero=>exact ⟨rfl,h⟩
 | succ n=>exact h.elim
theorem Agk{α:Type}{n}{r}{k:α->Prop}(h0:n=0)(h:r.all k):(Ajt n r).all k:=by
 subst h0;exact h
def Vr(P:AK)(h:Hp)(q:Nat)(t t2:AG)(s x:D):Rs (D×Hp):=
 match Dz P t,Dz P t2 with
 | some ⟨_,_,.slice e,_⟩,some ti2=>match Dz P e with
   | some a=>(Afe h x).bind λ b=>match s with
     | .cl f=> .ret ((match ti2.k with | .slice _=>True | .string=>True | _=>False)/\PX a.size b/\0<a.size/\a.zero.cells.length=a.size/\
           get h q=none/\(f=[]∨b≠[])/\PX a.size f/\(f.length+b.length)*a.bytes<=140737488355328/\f.length+b.length<=140737488355328)
         (.ref q 0 (f++b).length (f++b).length,(q,.arr e a.size (f++b))::h)
     | .cz f=> .split b.isEmpty (.ret ((match ti2.k with | .slice _=>True | .string=>True | _=>False)/\PX a.size b/\0<a.size/\a.zero.cells.length=a.size/\PX a.size f) (.cz f,h))
         (.ret ((match ti2.k with | .slice _=>True | .string=>True | _=>False)/\PX a.size b/\0<a.size/\a.zero.cells.length=a.size/\
           get h q=none/\PX a.size f/\(f.length+b.length)*a.bytes<=140737488355328/\f.length+b.length<=140737488355328)
         (.ref q 0 (f++b).length (f++b).length,(q,.arr e a.size (f++b))::h))
     | .ref id off len N=>Ajt off (match get h id with
       | some (.arr j g f)=> .ret ((match ti2.k with | .slice _=>True | .string=>True | _=>False)/\PX a.size b/\0<a.size/\a.zero.cells.length=a.size/\
           off=0/\N=f.length/\len=f.length/\j=e/\g=a.size/\(f.length+b.length)*a.bytes<=140737488355328/\f.length+b.length<=140737488355328)
         (.ref id 0 (f++b).length (f++b).length,Dn h id (.arr e g (f++b)))
       | _=> .fail)
     | .nr id i len m=>match get h id with
       | some (.Fc n j g l rows none)=> .ret ((match ti2.k with | .slice _=>True | .string=>True | _=>False)/\PX a.size b/\0<a.size/\a.zero.cells.length=a.size/\
           (j=e/\g=a.size/\m=l/\len=(rows.getD i []).length/\i<rows.length/\get h q=none)/\(len+b.length)*a.bytes<=140737488355328/\len+b.length<=140737488355328)
         (.ref q 0 (rows.getD i []++b).length (rows.getD i []++b).length,(q,.arr e g (rows.getD i []++b))::Dn h id (.Fc n j g (l+1) rows (some i)))
       | _=> .fail
     | _=> .fail
   | none=> .fail
 | _,_=> .fail
theorem Aw7{h}{d}{k k':Ag->Prop}(b:∀x,k x->k' x)(a:R6 h d k):R6 h d k':=by
 unfold R6 at*;split at a
 . exact b _ a
 . exact b _ a
 . exact b _ a
 . split at a
   . exact ⟨a.1,b _ a.2⟩
   . exact ⟨a.1,b _ a.2⟩
   . exact a.elim
 . exact a.elim
theorem Bcc{h}{d}{q:Prop}{k:Ag->Prop}(a:R6 h d (λ b=>q/\k b)):q/\R6 h d k:=by
 unfold R6 at*;split at a
 . exact a
 . exact a
 . exact a
 . split at a
   . exact ⟨a.2.1,a.1,a.2.2⟩
   . exact ⟨a.2.1,a.1,a.2.2⟩
   . exact a.elim
 . exact a.elim
theorem Bb4{P}{h}{q}{t t2}{s x}{k:D->Hp->Prop}(m:(Vr P h q t t2 s x).all (λ x=>k x.1 x.2)):z8 P h q t t2 s x k:=by
 unfold Vr at m;unfold z8;split at m
 case h_2=>exact m.elim
 rename_i w h2;simp only[w,h2];split at m
 case h_2=>exact m.elim
 rename_i y;simp only[y];refine Bcc (Aw7 (λ z a=>?_) (Bcb (Rs.all_bind m)));split at a
 . obtain ⟨⟨b,e,f,g,i,n,l,o,p⟩,j⟩:=a;exact ⟨b,e,f,g,i,n,l,o,p,j⟩
 . rename_i B;cases hb:z.isEmpty with
   | true=>
     obtain ⟨⟨b,e,f,g,i⟩,j⟩:=a.1 hb;refine ⟨b,e,f,g,?_⟩;simp only[hb,Bhs];exact ⟨i,j⟩
   | false=>
     obtain ⟨⟨b,e,f,g,i,l,o,p⟩,j⟩:=a.2 hb;refine ⟨b,e,f,g,?_⟩;simp only[hb,Bb8];exact ⟨i,l,o,p,j⟩
 . have a:=(VF a).2;split at a
   . rename_i v;obtain ⟨⟨b,e,f,g,i,n,l,o,p,r,u⟩,j⟩:=a;simp only[v];exact ⟨b,e,f,g,i,n,l,o,p,r,u,j⟩
   . exact a.elim
 . split at a
   . rename_i v;obtain ⟨⟨b,e,f,g,i,n,l⟩,j⟩:=a;simp only[v];exact ⟨b,e,f,g,i,n,l,j⟩
   . exact a.elim
 . exact a.elim
def IP(h:Hp)(id i n:Nat)(v:D):Rs Hp:=
 match v with
 | .ref q off len N=>match get h q,get h id with
   | some (.arr f ZC a),some (.Fc t e b g rows hole)=> .ret (off=0/\f=e/\ZC=b/\N=a.length/\len=N/\n=rows.length/\(hole=none∨hole=some i))
       (Dn (Dn h id (.Fc t e b (Bnj hole g) (rows.set i a) none)) q (.Ij (F7 (.arr b (a.length+1)))))
   | _,_=> .fail
 | _=> .fail
theorem Afi{h}{id i n}{v}{k:Hp->Prop}(a:(IP h id i n v).all k):Td h id i n v k:=by
 unfold IP at a;unfold Td;split at a
 . split at a
   . rename_i b h2;simp only[b,h2];exact a
   . exact a.elim
 . exact a.elim
def PF(P:AK)(h:Hp)(t:AG)(a v:D):Rs Hp:=
 match Dz P t with
 | some g=>match v.stored with
   | some cs=>match a with
     | .ptr id off=>match get h id with
       | some (.box b k)=> .ret (cs.length=g.size/\off+cs.length<=b.length) (Dn h id (.box (b.take off++cs++b.drop (off+cs.length)) (Qj k (b.take off++cs++b.drop (off+cs.length)))))
       | _=> .fail
     | .ea id i c N=>(MC h cs).bind λ y=>match get y.2 id with
       | some (.arr e j f)=> .ret (cs.length=g.size/\N=f.length/\c+y.1.length<=j) (Dn y.2 id (.arr e j (f.set i ((f.getD i []).take c++y.1++(f.getD i []).drop (c+y.1.length)))))
       | _=> .fail
     | .R9 id i n=>(IP h id i n v).and (cs.length=g.size)
     | _=> .fail
   | none=> .fail
 | none=> .fail
theorem KB:∀{ds:Ai} {h:Hp} {q:Prop} {k:Ax->Hp->Prop},Lx h ds (λ x h=>q/\k x h)->q/\Lx h ds k
 | [],h,q,k,e=>e
 | d::r,h,q,k,e=>by
   have a:PG h d (λ x f=>q/\Lx f r λ i b=>k (x::i) b):=Agv (λ x f h2=>KB h2) e;simp only[Lx];unfold PG at a ⊢;cases d with
   | p x=>exact a
   | cl g=>exact a
   | cz g=>exact a
   | ref id off len N=>
     simp only at a ⊢;split at a
     . rename_i h2;exact ⟨a.2.1,a.1,a.2.2⟩
     . rename_i h2;exact ⟨a.2.1,a.1,a.2.2⟩
     . exact a.elim
   | E3 id n=>
     simp only at a ⊢;split at a
     . rename_i h2;exact ⟨a.2.1,a.1,a.2.2⟩
     . exact a.elim
   | _=>exact a.elim
theorem Arm{P}{h}{t}{a v}{k:Hp->Prop}(b:(PF P h t a v).all k):Abm P h t a v k:=by
 unfold PF at b;unfold Abm;split at b
 case h_2=>exact b.elim
 rename_i f;simp only[f];split at b
 case h_2=>exact b.elim
 rename_i h2;simp only[h2];split at b
 . split at b
   . rename_i e;simp only[e];exact ⟨b.1.1,b.1.2,b.2⟩
   . exact b.elim
 . refine KB (Rg (λ x g hx=>?_) (VN (Rs.all_bind b)));simp only at hx;split at hx
   . rename_i e;simp only[e];exact ⟨hx.1.1,hx.1.2.1,hx.1.2.2,hx.2⟩
   . exact hx.elim
 . exact ⟨(Rs.GD b).1,Afi (Rs.GD b).2⟩
 . exact b.elim
def TK.Bnq:TK->Bool
 | .slice _=>true
 | _=>false
def D.Bd7:D->Bool
 | .cl []=>true
 | _=>false
def TK.Bd8:TK->Bool
 | .slice e=>!Bl6 e
 | _=>false
def Ak8(a:TI)(cs:Ai):Bool:=a.k.Bd8&&(!cs.isEmpty&&cs.all D.Bd7)
def MI(P:AK)(st:St)(q:Nat)(f:Op):Rs (D×Hp):=
 match f with
 | .alloc t=>match Dz P t with
   | some b=>match b.zero.stored with
     | some cs=> .ret (get st.hp q=none) (.ptr q 0,(q,.box cs (npT t cs))::st.hp)
     | none=> .fail
   | none=> .fail
 | .box _ x=>match (ev st x).stored with
   | some cs=> .ret (get st.hp q=none) (.ptr q 0,(q,.box cs)::st.hp)
   | none=> .fail
 | .store t a x=>(PF P st.hp t (ev st a) (ev st x)).bind λ h=> .ret True (.Em [],h)
 | .makeMap _ none=> .ret (get st.hp q=none) (.mv q,(q,.mp [])::st.hp)
 | .mapUpdate t m i x=>(VU P st.hp t (ev st m) (ev st i) (ev st x)).bind λ h=> .ret True (.Em [],h)
 | .buildSlice t n parts=>match Dz P t with
   | some ⟨_,_,.slice e,_⟩=>match Dz P e with
     | some b=>match J2 (λ i=>some (i*b.size,b.size)) (List.replicate (n*b.size) .bad) (parts.toList.map λ q=>(q.1,ev st q.2)) with
       | some cs=>if Ak8 b cs=true then .fail else (MC st.hp cs).bind λ y=> .ret (0<b.size/\n*b.size<=16777216/\get y.2 q=none) (.ref q 0 n n,(q,.arr e b.size (chunk b.size n y.1))::y.2)
       | none=> .fail
     | none=> .fail
   | _=> .fail
 | .makeSlice t l m=>match Dz P t,ev st l,ev st m with
   | some ⟨_,_,.slice e,_⟩,.p (.int _ l),.p (.int _ m)=>match Dz P e with
     | some b=>if (b.k.Bnq&&!Acn t)=true then .fail else (MC [] b.zero.cells).bind λ y=> .ret (0<b.size/\get st.hp q=none/\(0<=l/\l<=m/\m*b.bytes<=140737488355328/\m<=140737488355328)/\b.zero.cells.length=b.size)
         (.ref q 0 l.toNat l.toNat,(q,.arr e b.size (List.replicate l.toNat y.1))::st.hp)
     | none=> .fail
   | _,_,_=> .fail
 | _=> .fail
theorem Awm{P}{st}{q}{o}{k:D->Hp->Prop}(a:(MI P st q o).all (λ x=>k x.1 x.2)):Awn P st q o k:=by
 unfold MI at a;unfold Awn;split at a
 . split at a
   . rename_i e;simp only[e];split at a
     . rename_i h2;simp only[h2];exact a
     . exact a.elim
   . exact a.elim
 . split at a
   . rename_i h2;simp only[h2];exact a
   . exact a.elim
 . exact Arm (Rs.Dg (λ h hx=>hx.2) (Rs.all_bind a))
 . exact a
 . exact As5 (Rs.Dg (λ h hx=>hx.2) (Rs.all_bind a))
 . split at a
   . rename_i e;simp only[e];split at a
     . rename_i h2;simp only[h2];split at a
       . rename_i i;simp only[i];split at a
         . exact a.elim
         have j:=Rg (k':=λ y h=>_/\_/\get h q=none/\k _ _) (λ y h b=>⟨b.1.1,b.1.2.1,b.1.2.2,b.2⟩) (VN (Rs.all_bind a));have g:=KB j;have f:=KB g.2;exact ⟨g.1,f.1,f.2⟩
       . exact a.elim
     . exact a.elim
   . exact a.elim
 . split at a
   . rename_i e h2 i;simp only[e,h2,i];split at a
     . rename_i j;simp only[j];split at a
       . exact a.elim
       have g:=Rg (k':=λ y h=>_/\_/\_/\_/\k _ _) (λ y h b=>⟨b.1.1,b.1.2.1,b.1.2.2.1,b.1.2.2.2,b.2⟩) (VN (Rs.all_bind a));have f:=KB g;have l:=KB f.2;have m:=KB l.2;have n:=KB m.2;exact ⟨f.1,l.1,m.1,n.1,n.2⟩
     . exact a.elim
   . exact a.elim
 . exact a.elim
def Ah9(P:AK)(h:Hp)(q:Nat)(t:AG)(d:D):Rs (D×Hp):=
 match Dz P t with
 | some ⟨_,_,.slice e,_⟩=>match Dz P e with
   | some ⟨1,_,.slice _,.cl []⟩=> .ret (get h q=none) (.ref q 0 1 1,(q,.Yo e 1 [[.sl []]] 0 0 d)::h)
   | _=> .fail
 | _=> .fail
theorem Aws{P}{h}{q}{t}{d}{k:D->Hp->Prop}(a:(Ah9 P h q t d).all (λ x=>k x.1 x.2)):Aup P h q t d k:=by
 unfold Ah9 at a;unfold Aup;split at a
 case h_2=>exact a.elim
 rename_i b;simp only[b];split at a
 case h_2=>exact a.elim
 rename_i h2;simp only[h2];exact a
def Rn(P:AK)(st:St)(q:Nat)(a:Op):Rs (D×Hp):=
 match FM st a with
 | some (t,d)=>Ah9 P st.hp q t d
 | none=>MI P st q a
theorem MH{P}{st}{q}{e}{k:D->Hp->Prop}(a:(Rn P st q e).all (λ x=>k x.1 x.2)):mOp P st q e k:=by
 unfold Rn at a;unfold mOp;split at a
 . rename_i t d b;simp only[b];exact Aws a
 . rename_i b;simp only[b];exact Awm a
def Aer(h:Hp)(d:D):Rs (D×Hp):=
 match d with
 | .ref id off len N=>match get h id with
   | some (.arr _ _ a)=> .ret (N=a.length) (.p (.sl ((a.drop off).take len)),froze h id)
   | some (.Oh _ a)=> .ret (N=a.length) (.p (.sl ((a.drop off).take len)),h)
   | _=> .fail
 | .E3 id n=>match get h id with
   | some (.Fc _ _ e b rows none)=> .ret (n=rows.length) (.p (.sl (rows.map λ r=>[.sl r])),Dn h id (.Ij (F7 (.Fc e rows.length b))))
   | _=> .fail
 | .cl a=> .ret True (.p (.sl a),h)
 | d=> .ret True (d,h)
theorem Hl{h}{d}{k:D->Hp->Prop}(a:(Aer h d).all (λ x=>k x.1 x.2)):bor h d k:=by
 cases d with
 | ref id off len N=>
   simp only[Aer] at a;simp only[bor];split at a
   . exact a
   . exact a
   . exact a.elim
 | E3 id n=>
   simp only[Aer] at a;simp only[bor];split at a
   . exact a
   . exact a.elim
 | cl b=>exact a.2
 | _=>exact a.2
mutual
def Er (h:Hp) (d:D):Rs (D×Hp):=
  match d with
  | .agg cs=>(JQ h cs).bind λ x=> .ret True (.agg x.1,x.2)
  | .Em cs=>(JQ h cs).bind λ x=> .ret True (.Em x.1,x.2)
  | d=>Aer h d
def JQ:Hp->Ai->Rs (Ai×Hp)
  | h,[]=> .ret True ([],h)
  | h,d::r=>(Er h d).bind λ x=>(JQ x.2 r).bind λ y=> .ret True (x.1::y.1,y.2)
end
mutual
theorem Zg:∀{d:D} {h:Hp} {k:D->Hp->Prop},(Er h d).all (λ x=>k x.1 x.2)->HH h d k
  | .agg cs,h,k,hh=>by simp only[Er] at hh;simp only[HH];exact RF (Rs.Dg (λ x hx=>hx.2) (Rs.all_bind hh))
  | .Em cs,h,k,hh=>by simp only[Er] at hh;simp only[HH];exact RF (Rs.Dg (λ x hx=>hx.2) (Rs.all_bind hh))
  | .p _,h,k,hh=>by simp only[Er] at hh;simp only[HH];exact Hl hh
  | .cl _,h,k,hh=>by simp only[Er] at hh;simp only[HH];exact Hl hh
  | .cz _,h,k,hh=>by simp only[Er] at hh;simp only[HH];exact Hl hh
  | .ref _ _ _ _,h,k,hh=>by simp only[Er] at hh;simp only[HH];exact Hl hh
  | .ptr _ _,h,k,hh=>by simp only[Er] at hh;simp only[HH];exact Hl hh
  | .pe _,h,k,hh=>by simp only[Er] at hh;simp only[HH];exact Hl hh
  | .ea _ _ _ _,h,k,hh=>by simp only[Er] at hh;simp only[HH];exact Hl hh
  | .fn _ _,h,k,hh=>by simp only[Er] at hh;simp only[HH];exact Hl hh
  | .np,h,k,hh=>by simp only[Er] at hh;simp only[HH];exact Hl hh
  | .mv _,h,k,hh=>by simp only[Er] at hh;simp only[HH];exact Hl hh
  | .E3 _ _,h,k,hh=>by simp only[Er] at hh;simp only[HH];exact Hl hh
  | .R9 _ _ _,h,k,hh=>by simp only[Er] at hh;simp only[HH];exact Hl hh
  | .nr _ _ _ _,h,k,hh=>by simp only[Er] at hh;simp only[HH];exact Hl hh
  | .WE,h,k,hh=>by simp only[Er] at hh;simp only[HH];exact Hl hh
  | .bad,h,k,hh=>by simp only[Er] at hh;simp only[HH];exact Hl hh
theorem RF:∀{ds:Ai} {h:Hp} {k:Ai->Hp->Prop},(JQ h ds).all (λ x=>k x.1 x.2)->X9 h ds k
  | [],h,k,hh=>by simp only[JQ] at hh;simp only[X9];exact hh.2
  | d::r,h,k,hh=>by
    simp only[JQ] at hh;simp only[X9];exact Zg (Rs.Dg (λ x h1=>RF (Rs.Dg (λ y h2=>h2.2) (Rs.all_bind h1))) (Rs.all_bind hh))
end
def As9(P:AK)(h:Hp)(t:AG)(x:D):Rs D:=
 match Dz P t with
 | some b=>match b.k,x with
   | .string,.p (.str l)=> .ret True (.p (.int .i64 l.length))
   | .slice _,.p (.sl a)=> .ret True (.p (.int .i64 a.length))
   | .slice _,.cl a=> .ret True (.p (.int .i64 a.length))
   | .slice _,.ref id _ len N=> .ret (Atl h id N) (.p (.int .i64 len))
   | .slice _,.E3 _ n=> .ret True (.p (.int .i64 n))
   | .slice _,.nr _ _ len _=> .ret True (.p (.int .i64 len))
   | .array n _,_=> .ret True (.p (.int .i64 n))
   | _,_=> .fail
 | none=> .fail
theorem Ann{P}{h}{t}{x}{k:D->Prop}(a:(As9 P h t x).all k):Bd1 P h t x k:=by
 unfold As9 at a;unfold Bd1;split at a
 case h_2=>exact a.elim
 try simp only[*]
 split at a
 . first | exact a.2 | (simp only[*];exact a.2)
 . first | exact a.2 | (simp only[*];exact a.2)
 . first | exact a.2 | (simp only[*];exact a.2)
 . first | exact a | (simp only[*];exact a)
 . first | exact a.2 | (simp only[*];exact a.2)
 . first | exact a.2 | (simp only[*];exact a.2)
 . first | exact a.2 | (simp only[*];exact a.2)
 . exact a.elim
def Vs(P:AK)(h:Hp)(t t2:AG)(id N:Nat)(x:D):Rs (D×Hp):=
 match Dz P t,Dz P t2,x with
 | some ⟨_,_,.slice e,_⟩,some ⟨_,_,.slice _,_⟩,.ref o 0 1 1=>match Dz P e,get h o with
   | some ⟨1,j,.slice _,.cl []⟩,some (.Yo _ 1 [_] 0 0 (.ref i 0 n m))=>match get h i,get h id with
     | some (.arr g f a),some (.Fc k b Va l rows none)=> .ret ((k=e/\b=g/\Va=f)/\n=a.length/\m=a.length/\N=rows.length/\N+1<=140737488355328/\(N+1)*j<=140737488355328)
         (.E3 id (N+1),Dn (Dn h id (.Fc e g f (l+2) (rows++[a]) none)) i (.Ij (F7 (.arr f (a.length+1)))))
     | _,_=> .fail
   | _,_=> .fail
 | _,_,_=> .fail
theorem Bb5{P}{h}{t t2}{id N}{x}{k:D->Hp->Prop}(a:(Vs P h t t2 id N x).all (λ x=>k x.1 x.2)):Bhj P h t t2 id N x k:=by
 unfold Vs at a;unfold Bhj;split at a
 case h_2=>exact a.elim
 rename_i b h2;simp only[b,h2];split at a
 case h_2=>exact a.elim
 rename_i e f;simp only[e,f];split at a
 case h_2=>exact a.elim
 rename_i g i;simp only[g,i];exact a
def Aet(P:AK)(h:Hp)(q:Nat)(t t2:AG)(s x:D):Rs (D×Hp):=
 match s with
 | .E3 id N=>Vs P h t t2 id N x
 | s=>Vr P h q t t2 s x
theorem Aqk{P}{h}{q}{t t2}{s x}{k:D->Hp->Prop}(a:(Aet P h q t t2 s x).all (λ x=>k x.1 x.2)):Bhk P h q t t2 s x k:=by
 cases s<;>simp only[Aet] at a<;>simp only[Bhk]<;>first | exact Bb5 a | exact Bb4 a
def u9(P:AK)(h:Hp)(t:AG)(s x:D):Rs (D×Hp):= .fail
theorem Ais{P}{h}{t}{s x}{k:D->Hp->Prop}(a:(u9 P h t s x).all (λ x=>k x.1 x.2)):Bgx P h t s x k:=False.elim a
def Ib(P:AK)(st:St)(q:Nat)(b:Builtin)(f:Array TypeId)(args:Ai):Rs (D×Hp):=
 match b,args with
 | .len,[x]=>match f[0]? with
   | some t=>(As9 P st.hp t x).bind λ d=> .ret True (d,st.hp)
   | none=> .fail
 | .append,[s,x]=>match f[0]?,f[1]? with
   | some t,some i=>Aet P st.hp q t i s x
   | _,_=> .fail
 | .copy,[s,x]=>match f[0]?,f[1]? with
   | some t,some _=>u9 P st.hp t s x
   | _,_=> .fail
 | .min,[.p (.int a x),.p (.int e y)]=> .ret (a=e) (.p (.int a (if y<x then y else x)),st.hp)
 | .max,[.p (.int a x),.p (.int e y)]=> .ret (a=e) (.p (.int a (if x<y then y else x)),st.hp)
 | .min,[.p (.int a x),.p (.int e y),.p (.int g z)]=> .ret (a=e/\e=g) (.p (.int a (if z<(if y<x then y else x) then z else (if y<x then y else x))),st.hp)
 | _,_=> .fail
theorem RD{P}{st}{q}{b}{e}{args}{k:D->Hp->Prop}(a:(Ib P st q b e args).all (λ x=>k x.1 x.2)):
   TS P st q b e args k:=by
 unfold Ib at a;unfold TS;split at a
 . split at a
   . first | exact Ann (Rs.Dg (λ x hx=>hx.2) (Rs.all_bind a)) | (simp only[*];exact Ann (Rs.Dg (λ x hx=>hx.2) (Rs.all_bind a)))
   . exact a.elim
 . split at a
   . first | exact Aqk a | (simp only[*];exact Aqk a)
   . exact a.elim
 . split at a
   . first | exact Ais a | (simp only[*];exact Ais a)
   . exact a.elim
 . exact a
 . exact a
 . exact a
 . exact a.elim
end Go.Am
namespace Go.Am
open Go
mutual
def D.GA (ρ:Nat->Option Nat):D->D
  | .p x=> .p x
  | .agg cs=> .agg (M8 ρ cs)
  | .Em cs=> .Em (M8 ρ cs)
  | .cl es=> .cl es
  | .cz es=> .cz es
  | .ref id off len N=>match ρ id with | some j=> .ref j off len N | none=> .bad
  | .ptr id off=>match ρ id with | some j=> .ptr j off | none=> .bad
  | .pe cs=> .pe cs
  | .ea id i c N=>match ρ id with | some j=> .ea j i c N | none=> .bad
  | .fn f cap=> .fn f (M8 ρ cap)
  | .np=> .np
  | .mv id=>match ρ id with | some j=> .mv j | none=> .bad
  | .E3 id n=>match ρ id with | some j=> .E3 j n | none=> .bad
  | .R9 id i n=>match ρ id with | some j=> .R9 j i n | none=> .bad
  | .nr id i len k=>match ρ id with | some j=> .nr j i len k | none=> .bad
  | .WE=> .WE
  | .bad=> .bad
def M8 (ρ:Nat->Option Nat):Ai->Ai
  | []=>[]
  | d::r=>D.GA ρ d::M8 ρ r
end
def AO.GA(ρ:Nat->Option Nat):AO->AO
 | .box cs t=> .box (M8 ρ cs) t
 | .Yo t b a i c d=> .Yo t b a i c (d.GA ρ)
 | o=>o
abbrev Aq:=List Nat
mutual
def D.ids:D->Aq
  | .ref id _ _ _ | .ptr id _ | .ea id _ _ _ | .mv id | .E3 id _ | .R9 id _ _ | .nr id _ _ _=>[id]
  | .agg cs | .Em cs | .fn _ cs=>E8 cs
  | _=>[]
def E8:Ai->Aq
  | []=>[]
  | d::r=>D.ids d++E8 r
end
def Ig(T:Aq):Aq->Aq
 | []=>T
 | i::r=>if i∈T then Ig T r else Ig (T++[i]) r
def AO.ids:AO->Aq
 | .box cs _=>E8 cs
 | .Yo _ _ _ _ _ d=>d.ids
 | _=>[]
def ML(h:Hp):Aq->Aq
 | []=>[]
 | i::r=>(match get h i with | some o=>o.ids | none=>[])++ML h r
def ghost(h:Hp)(id:Nat):Aq:=match get h id with
 | some (.Ev _ _)=>[id]
 | _=>[]
def V5(h:Hp):Aq:=ghost h base++(ghost h (base+1)++(ghost h (base+2)++ghost h (base+3)))
def FO(h:Hp)(ids:Aq):Aq:=
 let a:=Ig [] ids
 let b:=Ig a (ML h a)
 Ig (Ig b (ML h b)) (V5 h)
def idx:Aq->Nat->Nat->Option Nat
 | [],_,_=>none
 | x::r,k,id=>if x=id then some k else idx r (k+1) id
def sub(h:Hp)(ρ:Nat->Option Nat):Nat->Aq->Hp
 | _,[]=>[]
 | k,id::r=>match get h id with
   | some o=>(k,o.GA ρ)::sub h ρ (k+1) r
   | none=>sub h ρ (k+1) r
def back(T:Aq)(q j:Nat):Option Nat:=if base<=j then T[j - base]? else some (10000*(j+1)+q)
def merge(T:Aq)(q:Nat)(h:Hp):Hp->Hp
 | []=>h
 | (j,o)::r=>match back T q j with
   | some id=>Dn (merge T q h r) id (o.GA (back T q))
   | none=>merge T q h r
def fresh(q:Nat)(h:Hp):Hp->Prop
 | []=>True
 | (j,_)::r=>(base<=j∨get h (10000*(j+1)+q)=none)/\fresh q h r
def Enters(P:AK)(f:AH):Prop:=∀args w,(callFunc f args).run P w= .ok (.enter f args) w
def Bhv(P:AK)(f:AH)(vs:Array Value)(w:AI)(Btj:Ending->World->Prop):Prop:=
 ((callFunc f vs).run P w= .ok (.enter f vs) w/\Calls P f vs w Btj)∨∃v a,(callFunc f vs).run P w= .ok (.value v) a/\Btj (.returned v) a
theorem Bhv.mono{P}{f}{vs}{w}{Q Q':Ending->World->Prop}(h:Bhv P f vs w Q)(b:∀e w',Q e w'->Q' e w'):Bhv P f vs w Q':=by
 rcases h with ⟨a,h2⟩ | ⟨v,w',a,h2⟩
 . exact .inl ⟨a,h2.mono b⟩
 . exact .inr ⟨v,w',a,b _ _ h2⟩
def C3(P:AK)(f:AH)(args:Ai)(h:Hp)(R:Hp->D->Prop):Prop:=
 ∀(i:Array Value) (w:AI) (F:Nat->Prop) (M:Nat->Mb),HR F w M h->(∀b,F b->b<w.heap.size)->(∀id,sg h id≠none->base<=id)->Nk F w M (sg h) args i.toList->
   Bhv P f i w λ e g=>∃v a r F' M',e= .returned v/\R a r/\HR F' g M' a/\DR F' g M' (sg a) r v/\Au5 ⟨w,F,Hn M h,M,sg h⟩ g F' M' a
theorem C3.mono{P}{f}{args}{h}{R R':Hp->D->Prop}(j:C3 P f args h R)(hR:∀h' r,R h' r->R' h' r):C3 P f args h R':=
 λ k w F M a h2 LC b=>(j k w F M a h2 LC b).mono λ _ _ ⟨v,h',r,F',M',e,g,i⟩=>⟨v,h',r,F',M',e,hR _ _ g,i⟩
theorem Af1{P}{f}{e:Array Value->Sem Value}{args}{h}{R:Hp->D->Prop}(ET:∀args w,(callFunc f args).run P w=((e args).run P w).andThen λ v w'=> .ok (.value v) w')
   (i:∀(vs:Array Value) w F M,Nk F w M (sg h) args vs.toList->∃v r,(e vs).run P w= .ok v w/\DR F w M (sg h) r v/\R h r):C3 P f args h R:=by
 intro vs w F M Qp Uh Xn g;obtain ⟨v,r,a,h2,b⟩:=i vs w F M g;refine .inr ⟨v,w,?_,v,h,r,F,M,rfl,b,Qp,h2,⟨rfl,rfl,rfl,Bk _,λ _ _ _=>rfl,λ _ h=>h,λ _ h=> .inl h,Uh,λ _ h=> .inl h,Ea.refl _ _,Xn⟩⟩;rw[ET,a];rfl
def LD(P:AK)(h:Hp)(f:AH)(ds:Ai)(q:Nat)(k:D->Hp->Prop):Prop:=
 let T:=FO h (E8 ds)
 T.Nodup/\(T.all λ id=>(get h id).isSome)=true/\
 C3 P f (M8 (idx T base) ds) (sub h (idx T base) base T) λ a r=>fresh q h a/\k (r.GA (back T q)) (merge T q h a)
def Ps(P:AK)(st:St)(o:Oper):Rs (D×Hp):=
 match o.op with
 | .call c=>match c.callee with
   | .builtin b=>Ib P st (o.dst.getD 0) b c.argTypes (c.args.toList.map (ev st))
   | _=> .fail
 | .alloc _ | .box _ _ | .store _ _ _ | .buildSlice _ _ _ | .makeSlice _ _ _ | .makeMap _ _ | .mapUpdate _ _ _ _=>Rn P st (o.dst.getD 0) o.op
 | op=>(NM P st op).bind λ d=> .ret True (d,st.hp)
abbrev AD:=List Operand
def KH(st:St)(f:AM)(args:AD):Rs (FuncId×Ai×Hp):=
 match ev st f with
 | .fn g cap=>(JQ st.hp (args.map (ev st)++cap)).bind λ x=> .ret True (g,x.1,x.2)
 | _=> .fail
def Ez(o:Op):Option (Operand×AD):=
 match o with
 | .call c=>match c.callee with
   | .value f=>some (f,c.args.toList)
   | _=>none
 | _=>none
def Good(c:Ctx)(K:St->Prop):Act->World->Prop:=λ a w=>∃b F M,K b/\Rel c b a w F M
def Vu(P:AK)(o:Oper)(K:St->Prop)(st:St):Prop:=
 ∀c a w F M (Q:Exit->Act->World->Prop),Rel c st a w F M->o.wp P a w (Good c K) Q
def RC(S:Prop)(P:AK)(h:Hp)(f:AH)(ds:Ai)(q:Nat)(k:D->Hp->Prop):Prop:=
 let T:=FO h (E8 ds)
 T.Nodup/\(T.all λ id=>(get h id).isSome)=true/\
 (C3 P f (M8 (idx T base) ds) (sub h (idx T base) base T) (λ a r=>fresh q h a/\k (r.GA (back T q)) (merge T q h a))∨S)
theorem Zf{S:Prop}{P}{h}{f}{ds}{q}{k:D->Hp->Prop}(e:RC S P h f ds q k):LD P h f ds q k∨S:=by
 obtain ⟨b,h2,a⟩:=e;rcases a with a | a
 . exact .inl ⟨b,h2,a⟩
 . exact .inr a
theorem Aiv{S:Prop}{P}{h}{f}{ds}{q}{k:D->Hp->Prop}(a:LD P h f ds q k):RC S P h f ds q k:=⟨a.1,a.2.1,.inl a.2.2⟩
theorem RB{X:Prop}{P}{h}{f}{ds}{q}{k:D->Hp->Prop}:RC (false=true/\X) P h f ds q k=LD P h f ds q k:=
 propext ⟨λ a=>(Zf a).elim id λ h=>(BV h.1).elim,Aiv⟩
def Yu(P:AK)(s:Bool)(o:Oper)(K:St->Prop)(st:St):Prop:=
 match Ez o.op with
 | some (f,args)=>(KH st f args).OF (s=true/\Vu P o K st) λ x=>RC (s=true/\Vu P o K st) P x.2.2 x.1 x.2.1 (o.dst.getD 0) λ d a=>K (({st with hp:=a}:St).put o.dst d)
 | none=>(Ps P st o).OF (s=true/\Vu P o K st) λ x=>K (({st with hp:=x.2}:St).put o.dst x.1)
abbrev As:=List Oper
def IU(st:St)(ops:As)(g:Option (Nat×Bool))(yes no:Prop):Prop:=
 match g with
 | none=>yes
 | some (j,want)=>match ((ops[j]?).bind (·.dst)).bind (get st.env) with
   | some (.p (.bool b))=>WIf (b==want) yes no
   | some (.Em [])=>no
   | _=>False
def Af6(P:AK)(s:Bool)(ops:As):As->(St->Prop)->St->Prop
 | [],K,a=>K a
 | o::rest,K,a=>IU a ops o.guard (Yu P s o (Af6 P s ops rest K) a) (Af6 P s ops rest K (a.put o.dst (.Em [])))
def thn(K:St->Prop)(Q:Exit->St->Prop):Exit->St->Prop
 | .normal,a=>K a
 | e,a=>Q e a
def Fm(id:Nat)(Q:Exit->St->Prop):Exit->St->Prop
 | .exit Wv,a=>if Wv=id then Q .normal a else Q (.exit Wv) a
 | e,a=>Q e a
def Wk(st Lt:St):Prop:=∀c a w F M,Rel c st a w F M->∃F' M',Rel c Lt a w F' M'
def Am8(body:(Exit->St->Prop)->St->Prop)(Q:Exit->St->Prop):Nat->St->Prop
 | 0,_=>False
 | n+1,a=>∃Lt,Wk a Lt/\body (thn (Am8 body Q n) Q) Lt
def QC(c:Ctx)(Q:Exit->St->Prop):Exit->Act->World->Prop:=λ e a w=>∃b F M,Q e b/\Rel c b a w F M
def Bpc(P:AK)(x:Code)(Q:Exit->St->Prop)(st:St):Prop:=
 ∀c a w F M,Rel c st a w F M->(Code.scope x).wp P (QC c Q) a w
def Btr(P:AK)(id:Nat)(ops:Array Oper)(Q:Exit->St->Prop)(st:St):Prop:=
 ∀c a w F M,Rel c st a w F M->(Code.region id ops true).wp P (QC c Q) a w
def wA(P:AK):Code->(Exit->St->Prop)->St->Prop
 | .skip,Q,a=>Q .normal a
 | .label _,Q,a=>Q .normal a
 | .ret,Q,a=>Q .ret a
 | .exit id,Q,a=>Q (.exit id) a
 | .goto l,Q,a=>Q (.goto l) a
 | .seq x y,Q,a=>wA P x (thn (wA P y Q) Q) a
 | .cond c x y,Q,a=>match ev a c with
   | .p (.bool b)=>WIf b (wA P x Q a) (wA P y Q a)
   | _=>False
 | .block id x,Q,a=>wA P x (Fm id Q) a
 | .loop x,Q,a=>∃n,Am8 (wA P x) Q n a
 | .scope x,Q,a=>Bpc P x Q a
 | .region id ops draw,Q,a=>(draw=false/\Af6 P true ops.toList ops.toList (Q .normal) a)∨(draw=true/\Btr P id ops Q a)
 | _,_,_=>False
end Go.Am
namespace Go.Am
open Go
section
variable {P:AK} {c:Ctx} {st:St} {a:Act} {w:AI} {F:Nat->Prop} {M:Nat->Mb}
theorem N7(ρ:Nat->Option Nat):∀(cs:Ai) (i:Nat),(M8 ρ cs)[i]?=(cs[i]?).map (D.GA ρ)
 | [],i=>by simp[M8]
 | d::r,0=>by simp[M8]
 | d::r,i+1=>by simp[M8,N7 ρ r i]
theorem KA(ρ:Nat->Option Nat):∀cs:Ai,(M8 ρ cs).length=cs.length
 | []=>rfl
 | d::r=>by simp[M8,KA ρ r]
theorem DR.GA{ρ:Nat->Option Nat}{M':Nat->Mb}{s T:Nat->Option Sg}{d:D}{v:AJ}(h:DR F w M s d v)
   (H:∀id j,ρ id=some j->s id≠none->M' j=M id/\T j=s id):DR F w M' T (d.GA ρ) v:=by
 induction h with
 | p h=>simp only[D.GA];exact .p h
 | agg cs Q I _ K=>
   simp only[D.GA];refine .agg _ Q (by rw[KA];exact I) λ i e g=>?_;rw[N7] at g;cases x:cs[i]? with
   | none=>rw[x] at g;cases g
   | some q=>rw[x] at g;cases g;exact K i q x
 | Em cs Q I _ K=>
   simp only[D.GA];refine .Em _ Q (by rw[KA];exact I) λ i e g=>?_;rw[N7] at g;cases x:cs[i]? with
   | none=>rw[x] at g;cases g
   | some q=>rw[x] at g;cases g;exact K i q x
 | cl R a h Y=>simp only[D.GA];exact .cl R a h Y
 | cz R a h=>simp only[D.GA];exact .cz R a h
 | ref id off len N z n v B y E h2=>
   simp only[D.GA];cases r:ρ id with
   | none=>exact .bad _
   | some j=>
     obtain ⟨l,o⟩:=H id j r (by rw[B];simp);exact .ref j off len N z n v (by rw[o,B]) y E (λ e=>by rw[l];exact h2 e)
 | ptr id off B=>
   simp only[D.GA];cases r:ρ id with
   | none=>exact .bad _
   | some j=>
     obtain ⟨l,o⟩:=H id j r (by rw[B];simp);have:=DR.ptr (F:=F) (w:=w) (M:=M') (s:=T) j off (by rw[o,B]);rwa[l] at this
 | pe cs b off row t U V W S Z=>simp only[D.GA];exact .pe cs b off row t U V W S Z
 | ea id i q N z n v B y E h2=>
   simp only[D.GA];cases r:ρ id with
   | none=>exact .bad _
   | some j=>
     obtain ⟨l,o⟩:=H id j r (by rw[B];simp);exact .ea j i q N z n v (by rw[o,B]) y E (λ e=>by rw[l];exact h2 e)
 | fn f cap Q I _ K=>
   simp only[D.GA];refine .fn f _ Q (by rw[KA];exact I) λ i e g=>?_;rw[N7] at g;cases x:cap[i]? with
   | none=>rw[x] at g;cases g
   | some q=>rw[x] at g;cases g;exact K i q x
 | np=>simp only[D.GA];exact .np
 | mv id u=>
   simp only[D.GA];cases r:ρ id with
   | none=>exact .bad _
   | some j=>
     obtain ⟨l,o⟩:=H id j r (by rw[u];simp);rw[<-l];exact .mv j (by rw[o,u])
 | E3 id n z m k v u y E h2=>
   simp only[D.GA];cases r:ρ id with
   | none=>exact .bad _
   | some j=>
     obtain ⟨l,o⟩:=H id j r (by rw[u];simp);exact .E3 j n z m k v (by rw[o,u]) y E (λ e=>by rw[l];exact h2 e)
 | R9 id i n z m k b u y S h2=>
   simp only[D.GA];cases r:ρ id with
   | none=>exact .bad _
   | some j=>
     obtain ⟨l,o⟩:=H id j r (by rw[u];simp);exact .R9 j i n z m k b (by rw[o,u]) y S (λ e=>by rw[l];exact h2 e)
 | nr id i len q z m k v u y E h2=>
   simp only[D.GA];cases r:ρ id with
   | none=>exact .bad _
   | some j=>
     obtain ⟨l,o⟩:=H id j r (by rw[u];simp);exact .nr j i len q z m k v (by rw[o,u]) y E (λ e=>by rw[l];exact h2 e)
 | WE v h=>simp only[D.GA];exact .WE v h
 | bad v=>simp only[D.GA];exact .bad v
theorem Nk.GA{ρ:Nat->Option Nat}{M':Nat->Mb}{s f:Nat->Option Sg}{ds:Ai}{vs:At}(h:Nk F w M s ds vs)
   (g:∀id j,ρ id=some j->s id≠none->M' j=M id/\f j=s id):Nk F w M' f (M8 ρ ds) vs:=
 ⟨by rw[KA];exact h.1,λ i d b=>by
   rw[N7] at b;cases e:ds[i]? with
   | none=>rw[e] at b;cases b
   | some q=>rw[e] at b;cases b;exact (h.2 i q e).GA g⟩
theorem AO.Arw(ρ:Nat->Option Nat)(o:AO):(o.GA ρ).sg=o.sg:=by cases o<;>rfl
theorem AO.J0(ρ:Nat->Option Nat)(o:AO)(m:Mb)(b:Nat):(o.GA ρ).JM m b↔o.JM m b:=by cases o<;>exact Iff.rfl
theorem Bng(ρ:Nat->Option Nat)(d:D):(d.GA ρ).Afk=d.Afk:=by
 cases d with
 | ref id off len N=>simp only[D.GA];cases ρ id<;>rfl
 | ptr id off=>simp only[D.GA];cases ρ id<;>rfl
 | ea id i c N=>simp only[D.GA];cases ρ id<;>rfl
 | mv id=>simp only[D.GA];cases ρ id<;>rfl
 | E3 id n=>simp only[D.GA];cases ρ id<;>rfl
 | R9 id i n=>simp only[D.GA];cases ρ id<;>rfl
 | nr id i n k=>simp only[D.GA];cases ρ id<;>rfl
 | _=>rfl
theorem Aui(ρ:Nat->Option Nat):∀cs:Ai,(M8 ρ cs).any D.Afk=cs.any D.Afk
 | []=>rfl
 | d::r=>by simp only[M8,List.any_cons,Bng,Aui ρ r]
theorem Bnh{ρ:Nat->Option Nat}{d:D}(h:d.GA ρ= .cl []):d= .cl []:=by
 cases d with
 | ref id off len N=>simp only[D.GA] at h;cases b:ρ id<;>rw[b] at h<;>cases h
 | ptr id off=>simp only[D.GA] at h;cases b:ρ id<;>rw[b] at h<;>cases h
 | ea id i c N=>simp only[D.GA] at h;cases b:ρ id<;>rw[b] at h<;>cases h
 | mv id=>simp only[D.GA] at h;cases b:ρ id<;>rw[b] at h<;>cases h
 | E3 id n=>simp only[D.GA] at h;cases b:ρ id<;>rw[b] at h<;>cases h
 | R9 id i n=>simp only[D.GA] at h;cases b:ρ id<;>rw[b] at h<;>cases h
 | nr id i n k=>simp only[D.GA] at h;cases b:ρ id<;>rw[b] at h<;>cases h
 | cl e=>simpa only[D.GA] using h
 | _=>simp[D.GA] at h
theorem UN.GA{ρ:Nat->Option Nat}{M':Nat->Mb}{s B:Nat->Option Sg}{m:Mb}{o:AO}(h:UN F w M s m o)
   (z:∀id j,ρ id=some j->s id≠none->M' j=M id/\B j=s id):UN F w M' B m (o.GA ρ):=by
 cases o with
 | box cs H=>
   obtain ⟨r,row,t,h2,u,n⟩:=h;refine ⟨r,row,t,h2,by rw[KA];exact u,λ j d p=>?_,λ v E j f=>?_⟩
   . rw[N7] at p;cases b:cs[j]? with
     | none=>rw[b] at p;cases p
     | some q=>rw[b] at p;cases p;exact ⟨(n.1 j q b).1.GA z,(n.1 j q b).2⟩
   . refine n.2 v (by rwa[Aui] at E) j ?_;rw[N7] at f;cases b:cs[j]? with
     | none=>rw[b] at f;cases f
     | some q=>
       rw[b] at f;simp only[Ci,Bo] at f;rw[Bnh f]
 | arr t x y=>exact h
 | Oh x y=>exact h
 | iter l pos=>exact h
 | Ev g cs=>exact h
 | Ij s=>exact h
 | mp l=>exact h
 | Fc t e x k rows hole=>exact h
 | Yo t x y i c d=>
   obtain ⟨row,r,h2,u,n,v⟩:=RM.row h;exact ⟨RM.pos h,RM.le h,RM.max h,RM.wid h,RM.at_ h,RM.nF h,row,r,h2,u,n.GA z,v⟩
theorem Of:∀(T:Aq) (k id j:Nat),idx T k id=some j->∃i,j=k+i/\T[i]?=some id
 | [],k,id,j,h=>by simp[idx] at h
 | x::r,k,id,j,h=>by
   simp only[idx] at h;split at h
   . rename_i e;cases h;exact ⟨0,AQ,by simp[e]⟩
   . obtain ⟨i,b,h2⟩:=Of r (k+1) id j h;exact ⟨i+1,AQ,by simpa using h2⟩
theorem Aux(h:Hp)(ρ:Nat->Option Nat):∀(T:Aq) (k j:Nat),get (sub h ρ k T) j=if k<=j then ((T[j - k]?).bind (get h)).map (AO.GA ρ) else none
 | [],k,j=>by simp[sub,get]
 | id::r,k,j=>by
   have b:=Aux h ρ r (k+1) j;by_cases e:k=j
   . subst e;simp only[sub,Bk,B5,Nat.sub_self,BE,Bd];cases f:get h id with
     | some o=>simp[Dj]
     | none=>rw[b,if_neg AQ];simp
   . have:get (sub h ρ k (id::r)) j=get (sub h ρ (k+1) r) j:=by
       simp only[sub];cases f:get h id with
       | some o=>rw[Dj,if_neg e]
       | none=>rfl
     rw[this,b];by_cases h2:k+1<=j
     . rw[if_pos h2,if_pos AQ,show j - k=(j - (k+1))+1 from AQ,List.getElem?_cons_succ]
     . rw[if_neg h2,if_neg AQ]
theorem Ah3{T:Aq}(h:T.Nodup){i j x:Nat}(e:T[i]?=some x)(f:T[j]?=some x):i=j:=by
 have b:=(Bn.1 e);have h2:=(Bn.1 f);exact (List.getElem_inj (h₀:=b.1) (h₁:=h2.1) h).1 (b.2.trans h2.2.symm)
theorem Ad7{q:Nat}{h:Hp}:∀{h':Hp},fresh q h h'->∀j o,get h' j=some o->base<=j∨get h (10000*(j+1)+q)=none
 | [],_,j,o,b=>by simp[get] at b
 | (k,x)::r,f,j,o,b=>by
   rw[Dj] at b;split at b
   . rename_i e;subst e;exact f.1
   . exact Ad7 f.2 j o b
theorem get_merge{T:Aq}{q:Nat}{h:Hp}:∀{h':Hp} (id:Nat),
   (∃j o,get h' j=some o/\back T q j=some id/\get (merge T q h h') id=some (o.GA (back T q)))∨
   ((∀j o,get h' j=some o->back T q j≠some id)/\get (merge T q h h') id=get h id)∨¬(∀i j,back T q i=some id->back T q j=some id->(∃o,get h' i=some o)->(∃o,get h' j=some o)->i=j)
 | [],id=> .inr (.inl ⟨λ j o f=>by simp[get] at f,rfl⟩)
 | (k,x)::r,id=>by
   by_cases YT:∀i j,back T q i=some id->back T q j=some id->(∃o,get ((k,x)::r) i=some o)->(∃o,get ((k,x)::r) j=some o)->i=j
   case neg=>exact .inr (.inr YT)
   by_cases hb:back T q k=some id
   . refine .inl ⟨k,x,by simp[Dj],hb,?_⟩;simp only[merge,hb,DH,B5]
   . have Anw:get (merge T q h ((k,x)::r)) id=get (merge T q h r) id:=by
       simp only[merge];cases u:back T q k with
       | none=>rfl
       | some Wv=>rw[DH,if_neg (λ e=>hb (by rw[u,e]))]
     have g:∀i,(∃o,get r i=some o)->back T q i=some id->∃o,get ((k,x)::r) i=some o:=λ i ⟨o,v⟩ l=>by
       rw[Dj];by_cases e:k=i
       . subst e;exact (hb l).elim
       . rw[if_neg e];exact ⟨o,v⟩
     rcases get_merge (T:=T) (q:=q) (h:=h) (h':=r) id with ⟨j,o,b,h2,t⟩ | ⟨b,h2⟩ | b
     . refine .inl ⟨j,o,?_,h2,by rw[Anw];exact t⟩;rw[Dj,if_neg (λ e=>by subst e;exact hb h2)];exact b
     . refine .inr (.inl ⟨λ j o f=>?_,by rw[Anw];exact h2⟩);rw[Dj] at f;split at f
       . rename_i e;subst e;exact hb
       . exact b j o f
     . exact (b λ i j p s m n=>YT i j p s (g i m p) (g j n s)).elim
theorem w8(B:Rel c st a w F M){f:AH}{ds:Ai}{q:Nat}{k:D->Hp->Prop}{vs:Array Value}(hd:Nk F w M (sg st.hp) ds vs.toList)(h:LD P st.hp f ds q k):
   Bhv P f vs w λ e w'=>∃v d h' F' M',e= .returned v/\k d h'/\Rel c {st with hp:=h'} a w' F' M'/\DR F' w' M' (sg h') d v:=by
 unfold LD at h;generalize FO st.hp (E8 ds)=T at h;obtain ⟨hT,FE,Ad4⟩:=h;have Vl:∀id,id∈T->∃o,get st.hp id=some o:=λ id hid=>by
   have:=BB.1 FE id hid;exact Cj.1 this
 have Auv:∀j,get (sub st.hp (idx T base) base T) j=if base<=j then ((T[j - base]?).bind (get st.hp)).map (AO.GA (idx T base)) else none:=Aux _ _ T base
 have Bdj:∀i id,T[i]?=some id->sg (sub st.hp (idx T base) base T) (base+i)=sg st.hp id:=λ i id s=>by
   unfold sg;rw[Auv,if_pos (Nat.le_add_right _ _),Cb,s];cases l:get st.hp id with
   | none=>simp[l]
   | some o=>simp[l,AO.Arw]
 have hρ:∀id j,idx T base id=some j->sg st.hp id≠none->(λ j=>M (T.getD (j - base) 0)) j=M id/\sg (sub st.hp (idx T base) base T) j=sg st.hp id:=λ id j m _=>by
   obtain ⟨i,rfl,s⟩:=Of T base id j m;refine ⟨?_,Bdj i id s⟩;simp only[Cb,Bu,s,BP]
 have Asj:∀b,Hn (λ j=>M (T.getD (j - base) 0)) (sub st.hp (idx T base) base T) b->∃(i id:Nat) (o:AO),T[i]?=some id/\get st.hp id=some o/\o.JM (M id) b:=by
   rintro b ⟨j,o,m,DD⟩;rw[Auv] at m;split at m
   case isFalse=>cases m
   cases s:T[j - base]? with
   | none=>rw[s] at m;simp at m
   | some id=>
     rw[s] at m;simp only[Bd] at m;cases l:get st.hp id with
     | none=>rw[l] at m;simp at m
     | some p=>
       rw[l] at m;simp only[Ci,Bo] at m;subst m;have W:M (T.getD (j - base) 0)=M id:=by simp only[Bu,s,BP]
       simp only[W,AO.J0] at DD ⊢;exact ⟨j - base,id,p,s,l,DD⟩
 have Qp:HR F w (λ j=>M (T.getD (j - base) 0)) (sub st.hp (idx T base) base T):=by
   have key:∀j o,get (sub st.hp (idx T base) base T) j=some o->∃id p,T[j - base]?=some id/\base<=j/\get st.hp id=some p/\o=p.GA (idx T base)/\M (T.getD (j - base) 0)=M id:=by
     intro j o m;rw[Auv] at m;split at m
     case isFalse=>cases m
     rename_i hle;cases s:T[j - base]? with
     | none=>rw[s] at m;simp at m
     | some id=>
       rw[s] at m;simp only[Bd] at m;cases l:get st.hp id with
       | none=>rw[l] at m;simp at m
       | some p=>
         rw[l] at m;simp only[Ci,Bo] at m;exact ⟨id,p,rfl,hle,l,m.symm,by simp only[Bu,s,BP]⟩
   constructor
   . intro j o m;obtain ⟨id,p,_,_,l,rfl,W⟩:=key j o m;simp only[W];exact (B.heap.obj id p l).GA hρ
   . intro j o S Q b m I4 DD FB;obtain ⟨id,p,s,hle,l,rfl,W⟩:=key j o m;obtain ⟨Wv,I,a4,Bs3,Ud,rfl,a0⟩:=key S Q I4;simp only[W,a0,AO.J0] at DD FB;have:=B.heap.inj id p Wv I b l Ud DD FB;subst this;have:=Ah3 hT s a4;omega
 refine (Ad4 vs w F _ Qp B.keep.Fl (λ id hid=>by
   by_cases e:base<=id
   . exact e
   . exact (hid (by unfold sg;rw[Auv,if_neg e];rfl)).elim) (hd.GA hρ)).mono ?_
 rintro e w' ⟨v,h',r,F',M',rfl,⟨Asn,hk⟩,XA,Boi,y⟩;refine ⟨v,D.GA (back T q) r,merge T q st.hp h',F',?_⟩;have LB:∀j id,back T q j=some id->(∃o,get h' j=some o)->(base<=j/\T[j - base]?=some id)∨(j<base/\get st.hp id=none):=by
   intro j id hb ⟨o,l⟩;unfold back at hb;by_cases e1:base<=j
   . rw[if_pos e1] at hb;exact .inl ⟨e1,hb⟩
   . rw[if_neg e1] at hb;simp only[Bo] at hb;refine .inr ⟨AQ,?_⟩;have:=(Ad7 Asn j o l).resolve_left e1;rwa[hb] at this
 have YT:∀id i j,back T q i=some id->back T q j=some id->(∃o,get h' i=some o)->(∃o,get h' j=some o)->i=j:=by
   intro id i j s m a5 a6;have g:=LB i id s a5;have h2:=LB j id m a6;rcases g with ⟨g,u⟩ | ⟨g,u⟩<;>rcases h2 with ⟨h2,H⟩ | ⟨h2,H⟩
   . have:=Ah3 hT u H;omega
   . obtain ⟨o,l⟩:=Vl id (Bt u);rw[H] at l;cases l
   . obtain ⟨o,l⟩:=Vl id (Bt H);rw[u] at l;cases l
   . unfold back at s m;rw[if_neg AQ] at s m;simp only[Bo] at s m;omega
 classical
 let M2:Nat->Mb:=λ id=>if hx:∃j,(∃o,get h' j=some o)/\back T q j=some id then M' hx.choose else M id
 have E:∀j id,(∃o,get h' j=some o)->back T q j=some id->M2 id=M' j:=by
   intro j id l hb;have hx:∃j,(∃o,get h' j=some o)/\back T q j=some id:=⟨j,l,hb⟩;simp only[M2,dif_pos hx];rw[YT id _ _ hx.choose_spec.2 hb hx.choose_spec.1 l]
 have Aso:∀id,(∀j o,get h' j=some o->back T q j≠some id)->M2 id=M id:=by
   intro id Xr;simp only[M2];rw[dif_neg];rintro ⟨j,⟨o,l⟩,hb⟩;exact Xr j o l hb
 have Dr:∀id,(∃j o,get h' j=some o/\back T q j=some id/\get (merge T q st.hp h') id=some (o.GA (back T q)))∨
     ((∀j o,get h' j=some o->back T q j≠some id)/\get (merge T q st.hp h') id=get st.hp id):=by
   intro id;rcases get_merge (T:=T) (q:=q) (h:=st.hp) (h':=h') id with g | g | g
   . exact .inl g
   . exact .inr g
   . exact (g (YT id)).elim
 have Z:∀j id,back T q j=some id->sg h' j≠none->M2 id=M' j/\sg (merge T q st.hp h') id=sg h' j:=by
   intro j id hb hs;have l:∃o,get h' j=some o:=by
     cases Y:get h' j with
     | none=>exact (hs (by simp[sg,Y])).elim
     | some o=>exact ⟨o,rfl⟩
   refine ⟨E j id l hb,?_⟩;rcases Dr id with ⟨j2,p,g,h2,u⟩ | ⟨g,_⟩
   . have:=YT id j j2 hb h2 l ⟨p,g⟩;subst this;simp[sg,g,u,AO.Arw]
   . obtain ⟨o,l⟩:=l;exact (g j o l hb).elim
 have Brx:∀id,(∃o,get st.hp id=some o)->id∉T->(∀j o,get h' j=some o->back T q j≠some id):=by
   intro id ⟨o,l⟩ hid j p m hb;rcases LB j id hb ⟨p,m⟩ with ⟨_,g⟩ | ⟨_,g⟩
   . exact hid (Bt g)
   . rw[g] at l;cases l
 have Ad0:∀id o,get st.hp id=some o->id∉T->get (merge T q st.hp h') id=some o/\M2 id=M id:=by
   intro id o l hid;have Xr:=Brx id ⟨o,l⟩ hid;rcases Dr id with ⟨j,p,g,h2,u⟩ | ⟨_,h2⟩
   . exact (Xr j p g h2).elim
   . exact ⟨by rw[h2,l],Aso id Xr⟩
 have Bo1:Ea M M2 (sg st.hp) (sg (merge T q st.hp h')):=by
   have K:=y.sgk;simp only at K;refine ⟨λ id hid=>?_,λ id R n hid=>?_,λ id R n kk hid=>?_⟩
   . by_cases JN:id∈T
     . obtain ⟨i,s⟩:=B8.1 JN;obtain ⟨g,h2⟩:=K.1 (base+i) (by rw[Bdj i id s];exact hid);have hb:back T q (base+i)=some id:=by unfold back;rw[if_pos (Nat.le_add_right _ _),Cb];exact s
       obtain ⟨u,H⟩:=Z _ _ hb (by rw[g];simp);refine ⟨by rw[H,g],?_⟩;rw[u,h2];simp only[Cb,Bu,s,BP]
     . obtain ⟨o,l,a7⟩:=Bcf hid;obtain ⟨g,h2⟩:=Ad0 id _ l JN;exact ⟨by simp[sg,g,a7],by rw[h2]⟩
   . by_cases JN:id∈T
     . obtain ⟨i,s⟩:=B8.1 JN;obtain ⟨n',g,Hc,h2⟩:=K.2.1 (base+i) R n (by rw[Bdj i id s];exact hid);have hb:back T q (base+i)=some id:=by unfold back;rw[if_pos (Nat.le_add_right _ _),Cb];exact s
       obtain ⟨u,H⟩:=Z _ _ hb (by rw[g];simp);refine ⟨n',by rw[H,g],Hc,λ e=>?_⟩;rw[u,h2 e];simp only[Cb,Bu,s,BP]
     . have:∃o,get st.hp id=some o:=by
         cases Y:get st.hp id with
         | none=>simp[sg,Y] at hid
         | some o=>exact ⟨o,rfl⟩
       obtain ⟨o,l⟩:=this;obtain ⟨g,h2⟩:=Ad0 id o l JN;refine ⟨n,?_,Bk _,λ _=>h2⟩;simp only[sg,g,l] at hid ⊢;exact hid
   . by_cases JN:id∈T
     . obtain ⟨i,s⟩:=B8.1 JN;obtain ⟨n',k',g,Hc,Boj,h2,LC⟩:=K.2.2 (base+i) R n kk (by rw[Bdj i id s];exact hid);have hb:back T q (base+i)=some id:=by unfold back;rw[if_pos (Nat.le_add_right _ _),Cb];exact s
       obtain ⟨u,H⟩:=Z _ _ hb (by rw[g];simp);refine ⟨n',k',by rw[H,g],Hc,Boj,λ e=>?_,λ e=>?_⟩
       . rw[u];have V:=h2 e;simp only[Cb,Bu,s,BP] at V;exact V
       . rw[u];have V:=LC e;simp only[Cb,Bu,s,BP] at V;exact V
     . have:∃o,get st.hp id=some o:=by
         cases Y:get st.hp id with
         | none=>simp[sg,Y] at hid
         | some o=>exact ⟨o,rfl⟩
       obtain ⟨o,l⟩:=this;obtain ⟨g,h2⟩:=Ad0 id o l JN;refine ⟨n,kk,?_,Bk _,Bk _,λ _=>by rw[h2];exact ⟨rfl,rfl⟩,λ _=>by rw[h2]⟩;simp only[sg,g,l] at hid ⊢;exact hid
 have YS:∀id o b,get st.hp id=some o->o.JM (M id) b->id∉T->¬Hn (λ j=>M (T.getD (j - base) 0)) (sub st.hp (idx T base) base T) b:=by
   intro id o b l DD hid N;obtain ⟨i,z,p,g,h2,u⟩:=Asj _ N;have:=B.heap.inj z p id o b h2 l u DD;subst this;exact hid (Bt g)
 have hF:∀b,F b->w'.heap[b]?=w.heap[b]?:=λ b hb=>y.Ua b (B.keep.Fl b hb) (λ N=>by
   obtain ⟨i,id,o,g,h2,u⟩:=Asj _ N;exact B.heap.PH ⟨id,o,h2,u⟩ hb)
 have Bo7:∀id o b,get st.hp id=some o->o.JM (M id) b->id∉T->¬F' b:=λ id o b l DD hid hf=>by
   rcases y.Fn _ hf with g | g | g
   . exact B.heap.PH ⟨id,o,l,DD⟩ g
   . exact YS id o b l DD hid g
   . have:=B.heap.lt ⟨id,o,l,DD⟩;simp only at g;omega
 refine ⟨M2,rfl,hk,?_,Boi.GA Z⟩;have Akm:∀id o,get (merge T q st.hp h') id=some o->(∀j o,get h' j=some o->back T q j≠some id)->get st.hp id=some o->id∉T:=by
   intro id o _ Xr l JN;obtain ⟨i,s⟩:=B8.1 JN;have hb:back T q (base+i)=some id:=by unfold back;rw[if_pos (Nat.le_add_right _ _),Cb];exact s
   have hs:sg (sub st.hp (idx T base) base T) (base+i)≠none:=by rw[Bdj i id s];simp[sg,l]
   have:∃o,get h' (base+i)=some o:=by
     cases Vk:sg (sub st.hp (idx T base) base T) (base+i) with
     | none=>exact (hs Vk).elim
     | some s2=>
       cases s2 with
       | box=>
         have g:=(y.sgk.1 _ Vk).1;obtain ⟨o,a2,_⟩:=Bcf g;exact ⟨_,a2⟩
       | arr R n=>
         obtain ⟨n',g,_⟩:=y.sgk.2.1 _ R n Vk;rcases Bnd g with ⟨t,es,h2,_⟩ | ⟨es,h2,_⟩ | ⟨_,h2,_⟩ | ⟨_,_,_,_,_,h2,_⟩
         . exact ⟨_,h2⟩
         . exact ⟨_,h2⟩
         . exact ⟨_,h2⟩
         . exact ⟨_,h2⟩
       | Fc R n kk=>
         obtain ⟨n',k',g,_⟩:=y.sgk.2.2 _ R n kk Vk;unfold sg at g;cases a3:get h' (base+i) with
         | none=>rw[a3] at g;simp at g
         | some o3=>exact ⟨o3,rfl⟩
   obtain ⟨p,x⟩:=this;exact Xr _ p x hb
 constructor
 . intro t d ht;exact (B.env t d ht).keep hF y.F0 Bo1
 . exact B.size
 . exact B.defers
 . constructor
   . intro id o l;rcases Dr id with ⟨j,p,g,h2,u⟩ | ⟨g,h2⟩
     . rw[u] at l;cases l;rw[E j id ⟨p,g⟩ h2];exact (XA.obj j p g).GA Z
     . have Ud:get st.hp id=some o:=by rw[<-h2];exact l
       have hid:=Akm id o l g Ud;rw[Aso id g];exact (B.heap.obj id o Ud).keep hF y.F0 Bo1 (λ b DD=>⟨y.Ua b (B.heap.lt ⟨id,o,Ud,DD⟩) (YS id o b Ud DD hid),Bo7 id o b Ud DD hid⟩)
   . intro id o Wv Q b l Ud DD FB;have Blr:∀j oj z p,get h' j=some oj->oj.JM (M' j) b->get st.hp z=some p->p.JM (M z) b->z∉T->False:=by
       intro j oj z p m Brv h2 Aut Bz4;rcases y.own _ ⟨j,oj,m,Brv⟩ with u | u
       . exact YS z p b h2 Aut Bz4 u
       . have:=B.heap.lt ⟨z,p,h2,Aut⟩;simp only at u;omega
     rcases Dr id with ⟨j,p,g,h2,u⟩ | ⟨g,h2⟩<;>rcases Dr Wv with ⟨S,I,Hc,LC,U⟩ | ⟨Hc,LC⟩
     . rw[u] at l;rw[U] at Ud;cases l;cases Ud;rw[E j id ⟨p,g⟩ h2] at DD;rw[E S Wv ⟨I,Hc⟩ LC] at FB;have:=XA.inj j p S I b g Hc ((AO.J0 _ _ _ _).1 DD) ((AO.J0 _ _ _ _).1 FB);subst this;rw[h2] at LC;cases LC;rfl
     . rw[u] at l;cases l;have x:get st.hp Wv=some Q:=by rw[<-LC];exact Ud
       rw[E j id ⟨p,g⟩ h2] at DD;rw[Aso Wv Hc] at FB;exact (Blr j p Wv Q g ((AO.J0 _ _ _ _).1 DD) x FB (Akm Wv Q Ud Hc x)).elim
     . rw[U] at Ud;cases Ud;have x:get st.hp id=some o:=by rw[<-h2];exact l
       rw[E S Wv ⟨I,Hc⟩ LC] at FB;rw[Aso id g] at DD;exact (Blr S I id o Hc ((AO.J0 _ _ _ _).1 FB) x DD (Akm id o l g x)).elim
     . have x:get st.hp id=some o:=by rw[<-h2];exact l
       have Byr:get st.hp Wv=some Q:=by rw[<-LC];exact Ud
       rw[Aso id g] at DD;rw[Aso Wv Hc] at FB;exact B.heap.inj id o Wv Q b x Byr DD FB
 . have Lo:=B.keep;have Bds:∀b,Hn (λ j=>M (T.getD (j - base) 0)) (sub st.hp (idx T base) base T) b->c.O0 b∨c.w0.heap.size<=b:=λ b N=>by
     obtain ⟨i,id,o,g,h2,u⟩:=Asj _ N;exact Lo.own _ ⟨id,o,h2,u⟩
   refine ⟨y.os.trans Lo.os,y.tape.trans Lo.tape,y.output.trans Lo.output,CF Lo.size y.size,λ b hb N=>?_,λ b hb=>y.F0 b (Lo.F0 b hb),λ b hb=>?_,y.Fl,?_,Lo.sgk.trans Bo1,Lo.s0b⟩
   . rw[y.Ua b (Nat.lt_of_lt_of_le hb Lo.size) (λ a1=>?_)]
     . exact Lo.Ua b hb N
     . rcases Bds b a1 with g | g
       . exact N g
       . omega
   . rcases y.Fn b hb with g | g | g
     . exact Lo.Fn b g
     . exact .inr (Bds b g)
     . exact .inr (.inr (CF Lo.size g))
   . rintro b ⟨id,o,l,DD⟩;rcases Dr id with ⟨j,p,g,h2,u⟩ | ⟨g,h2⟩
     . rw[u] at l;cases l;rw[E j id ⟨p,g⟩ h2] at DD;rcases y.own _ ⟨j,p,g,(AO.J0 _ _ _ _).1 DD⟩ with H | H
       . exact Bds _ H
       . exact .inr (CF Lo.size H)
     . have x:get st.hp id=some o:=by rw[<-h2];exact l
       rw[Aso id g] at DD;exact Lo.own _ ⟨id,o,x,DD⟩
end
end Go.Am
namespace Go.Am
open Go
section
variable {P:AK} {c:Ctx} {st:St} {a:Act} {w:AI} {F:Nat->Prop} {M:Nat->Mb}
theorem Rel.put(b:Rel c st a w F M){d:D}{v:AJ}(k:DR F w M (sg st.hp) d v)(t:Option Tmp):Rel c (st.put t d) (a.put t v) w F M:=by
 cases t with
 | none=>exact b
 | some t=>
   simp only[St.put,Act.put];by_cases g:t<st.n
   . rw[if_pos g];have Dv:t<a.tmps.size:=by rw[b.size];exact g
     refine ⟨λ q e f=>?_,by simp[b.size],b.defers,b.heap,b.keep⟩;simp only[Dj] at f;have HK:=b.size;by_cases i:t=q
     . subst i;simp only[B5,Bo] at f;subst f;have:(a.tmps.setIfInBounds t v).getD t undef=v:=by rw[Bs,Array.getElem?_setIfInBounds,if_pos rfl,if_pos Dv];rfl
       rw[this];exact k
     . rw[if_neg i] at f;have:(a.tmps.setIfInBounds t v).getD q undef=a.tmps.getD q undef:=by rw[Bs,Bs,Array.getElem?_setIfInBounds,if_neg i]
       rw[this];exact b.env q e f
   . rw[if_neg g];have:a.tmps.setIfInBounds t v=a.tmps:=by
       have j:¬t<a.tmps.size:=by rw[b.size];exact g
       unfold Array.setIfInBounds;rw[dif_neg j]
     rw[this];exact b
theorem Gm(i:Rel c st a w F M){d:D}{v:AJ}(g:DR F w M (sg st.hp) d v){k:D->Hp->Prop}(h:bor st.hp d k):
   ∃e h' F',k e h'/\Rel c {st with hp:=h'} a w F' M/\(∀b,F b->F' b)/\sg h'=sg st.hp/\DR F' w M (sg h') e v:=by
 have plain:k d st.hp->∃e h' F',k e h'/\Rel c {st with hp:=h'} a w F' M/\(∀b,F b->F' b)/\sg h'=sg st.hp/\DR F' w M (sg h') e v:=
   λ f=>⟨d,st.hp,F,f,i,λ _ h=>h,rfl,g⟩
 unfold bor at h;cases d with
 | ref id off len N=>
   have h2:PG st.hp (.ref id off len N) (λ x h'=>k (.p x) h'):=by
     unfold PG;simp only at h ⊢;exact h
   obtain ⟨x,h',F',f,j,l,m,o⟩:=N9 i g h2;exact ⟨_,h',F',f,j,l,m,.p o⟩
 | E3 id n=>
   have h2:PG st.hp (.E3 id n) (λ x h'=>k (.p x) h'):=by
     unfold PG;simp only at h ⊢;exact h
   obtain ⟨x,h',F',f,j,l,m,o⟩:=N9 i g h2;exact ⟨_,h',F',f,j,l,m,.p o⟩
 | cl r=>cases g with | cl _ q hx _=>exact ⟨_,st.hp,F,h,i,λ _ h=>h,rfl,.p hx⟩
 | _=>exact plain h
mutual
theorem RG:∀(d:D) {st:St} {F:Nat->Prop} {v:AJ},Rel c st a w F M->DR F w M (sg st.hp) d v->∀{k:D->Hp->Prop},HH st.hp d k->
    ∃d' h' F',k d' h'/\Rel c {st with hp:=h'} a w F' M/\(∀b,F b->F' b)/\sg h'=sg st.hp/\DR F' w M (sg h') d' v
  | .agg cs,st,F,v,hr,hd,k,h=>by
    cases hd with
    | agg _ vs hl hc=>
      simp only[HH] at h;obtain ⟨ds,h',F',hk,h1,h2,h3,h4⟩:=Pt cs vs.toList hr ⟨by simpa using hl,λ i e he=>by have:=hc i e he;simpa [List.getD,Array.getD_eq_getD_getElem?] using this⟩ h;exact ⟨_,h',F',hk,h1,h2,h3,.agg _ vs (by have:=h4.1;simpa using this) (λ i e he=>by have:=h4.2 i e he;simpa [List.getD,Array.getD_eq_getD_getElem?] using this)⟩
  | .Em cs,st,F,v,hr,hd,k,h=>by
    cases hd with
    | Em _ vs hl hc=>
      simp only[HH] at h;obtain ⟨ds,h',F',hk,h1,h2,h3,h4⟩:=Pt cs vs.toList hr ⟨by simpa using hl,λ i e he=>by have:=hc i e he;simpa [List.getD,Array.getD_eq_getD_getElem?] using this⟩ h;exact ⟨_,h',F',hk,h1,h2,h3,.Em _ vs (by have:=h4.1;simpa using this) (λ i e he=>by have:=h4.2 i e he;simpa [List.getD,Array.getD_eq_getD_getElem?] using this)⟩
  | .p x,st,F,v,hr,hd,k,h=>Gm hr hd (by simpa only[HH] using h)
  | .cl x,st,F,v,hr,hd,k,h=>Gm hr hd (by simpa only[HH] using h)
  | .cz x,st,F,v,hr,hd,k,h=>Gm hr hd (by simpa only[HH] using h)
  | .ref _ _ _ _,st,F,v,hr,hd,k,h=>Gm hr hd (by simpa only[HH] using h)
  | .ptr _ _,st,F,v,hr,hd,k,h=>Gm hr hd (by simpa only[HH] using h)
  | .pe _,st,F,v,hr,hd,k,h=>Gm hr hd (by simpa only[HH] using h)
  | .ea _ _ _ _,st,F,v,hr,hd,k,h=>Gm hr hd (by simpa only[HH] using h)
  | .fn _ _,st,F,v,hr,hd,k,h=>Gm hr hd (by simpa only[HH] using h)
  | .np,st,F,v,hr,hd,k,h=>Gm hr hd (by simpa only[HH] using h)
  | .mv _,st,F,v,hr,hd,k,h=>Gm hr hd (by simpa only[HH] using h)
  | .E3 _ _,st,F,v,hr,hd,k,h=>Gm hr hd (by simpa only[HH] using h)
  | .R9 _ _ _,st,F,v,hr,hd,k,h=>Gm hr hd (by simpa only[HH] using h)
  | .nr _ _ _ _,st,F,v,hr,hd,k,h=>Gm hr hd (by simpa only[HH] using h)
  | .WE,st,F,v,hr,hd,k,h=>Gm hr hd (by simpa only[HH] using h)
  | .bad,st,F,v,hr,hd,k,h=>Gm hr hd (by simpa only[HH] using h)
theorem Pt:∀(ds:Ai) {st:St} {F:Nat->Prop} (vs:At),Rel c st a w F M->Nk F w M (sg st.hp) ds vs->∀{k:Ai->Hp->Prop},X9 st.hp ds k->
    ∃Yn h' F',k Yn h'/\Rel c {st with hp:=h'} a w F' M/\(∀b,F b->F' b)/\sg h'=sg st.hp/\Nk F' w M (sg h') Yn vs
  | [],st,F,vs,hr,hd,k,h=>by
    simp only[X9] at h;exact ⟨[],st.hp,F,h,hr,λ _ h=>h,rfl,hd⟩
  | d::ds,st,F,vs,hr,hd,k,h=>by
    cases vs with
    | nil=>have:=hd.1;simp at this
    | cons v vs=>
      simp only[X9] at h;have hd0:DR F w M (sg st.hp) d v:=by simpa [List.getD] using hd.2 0 d rfl
      obtain ⟨x,h1,F1,hk,KF,hF1,hs1,hx⟩:=RG d hr hd0 h;have Tk:Nk F1 w M (sg h1) ds vs:=by
        refine ⟨by have:=hd.1;simpa using this,λ i e he=>?_⟩;have:=hd.2 (i+1) e (by simpa using he);rw[hs1];have h3:DR F w M (sg st.hp) e (vs.getD i undef):=by simpa [List.getD] using this
        exact h3.keep (λ _ _=>rfl) hF1 (Ea.refl _ _)
      obtain ⟨xs,h2,F2,Sc,JE,hF2,Vk,KL⟩:=Pt ds (st:={st with hp:=h1}) vs KF Tk hk;refine ⟨x::xs,h2,F2,Sc,JE,λ b hb=>hF2 b (hF1 b hb),Vk.trans hs1,by have:=KL.1;simpa using this,λ i y hy=>?_⟩;cases i with
      | zero=>
        simp only[BE,Bo] at hy;subst hy;have h4:=hx.keep (w':=w) (λ _ _=>rfl) hF2 (Ea.refl M (sg h1));rw[Vk]
        simpa [List.getD] using h4
      | succ i=>simp only[List.getElem?_cons_succ] at hy;simpa [List.getD] using KL.2 i y hy
end
theorem YY(f:Rel c st a w F M)(e:AD):Nk F w M (sg st.hp) (e.map (ev st)) (e.map a.eval):=by
 refine ⟨AT,λ i d b=>?_⟩;rw[BD] at b;cases hx:e[i]? with
 | none=>rw[hx] at b;cases b
 | some x=>
   rw[hx] at b;cases b;rw[Bu,BD,hx];exact Di f x
theorem Acm{o:Hp}{t:AG}{x:D}{k:D->Prop}(h:Bd1 P o t x k){s:AJ}(hx:DR F w M (sg o) x s)(B:Array TypeId)(ty:AG)(f:B[0]?=some t):
   ∃d v,k d/\DR F w M (sg o) d v/\(Builtin.len_ B ty #[s]).run P w= .ok v w:=by
 unfold Bd1 at h;split at h
 case h_2=>exact h.elim
 rename_i K E;obtain ⟨I,Q,R,Og,H3,_,rfl⟩:=De E;split at h
 . rename_i l b;obtain rfl:=TK.of_string b;cases hx with | p hx=>cases hx;exact ⟨_,_,h,.p (.int _ _),by simp[Builtin.len_,f,run_underlying H3,goInt,Qb]⟩
 . rename_i e u b;obtain rfl:=TK.of_slice b;cases hx with | p hx=>
     have:∃g cap,s= .slice g u.length cap:=by cases hx<;>exact ⟨_,_,rfl⟩
     obtain ⟨g,cap,rfl⟩:=this;exact ⟨_,_,h,.p (.int _ _),by simp[Builtin.len_,f,run_underlying H3,goInt]⟩
 . rename_i e u b;obtain rfl:=TK.of_slice b;cases hx with | cl _ g hx _=>exact ⟨_,_,h,.p (.int _ _),by simp[Builtin.len_,f,run_underlying H3,goInt]⟩
 . rename_i e id off len N b;obtain rfl:=TK.of_slice b;cases hx with
   | ref _ _ _ _ z n _ r y j h2=>
     rw[r] at h;obtain ⟨g,cap,rfl,_⟩:=h2 h.1;exact ⟨_,_,h.2,.p (.int _ _),by simp[Builtin.len_,f,run_underlying H3,goInt]⟩
 . rename_i e id n b;obtain rfl:=TK.of_slice b;cases hx with
   | E3 _ _ z m H _ r y j h2=>
     obtain ⟨g,cap,rfl,_⟩:=j;exact ⟨_,_,h,.p (.int _ _),by simp[Builtin.len_,f,run_underlying H3,goInt]⟩
 . rename_i e id i len q b;obtain rfl:=TK.of_slice b;cases hx with
   | nr _ _ _ _ z m H _ r y j h2=>
     obtain ⟨g,cap,rfl⟩:=j;exact ⟨_,_,h,.p (.int _ _),by simp[Builtin.len_,f,run_underlying H3,goInt]⟩
 . rename_i n e _ b;obtain rfl:=TK.of_array b;exact ⟨_,_,h,.p (.int _ _),by simp[Builtin.len_,f,run_underlying H3,goInt]⟩
 . exact h.elim
theorem Anm{α:Type}{x:α}{f:Operand->α}{b:Array Operand}(h:b.toList.map f=[x]):∃q,b=#[q]/\f q=x:=by
 obtain ⟨l⟩:=b;simp only at h;cases l with
 | nil=>simp at h
 | cons q r=>
   cases r with
   | nil=>simp only[B4,List.map_nil,List.cons.injEq,and_true] at h;exact ⟨q,rfl,h⟩
   | cons _ _=>simp at h
theorem An0{P:AK}{w:AI}(e:Array TypeId)(t:AG)(k k' b:IntKind)(x y z:Int):(Builtin.min_ e t #[.int k x,.int k' y,.int b z]).run P w= .ok (.int k (if z<(if y<x then y else x) then z else (if y<x then y else x))) w:=by
 simp[Builtin.min_,Builtin.min2]
theorem Acj{α:Type}{x y z:α}{f:Operand->α}{b:Array Operand}(h:b.toList.map f=[x,y,z]):∃q r s,b=#[q,r,s]/\f q=x/\f r=y/\f s=z:=by
 obtain ⟨l⟩:=b;simp only at h;rcases l with _ | ⟨q,_ | ⟨r,_ | ⟨s,_ | ⟨u,l⟩⟩⟩⟩
 . simp at h
 . simp at h
 . simp at h
 . simp only[B4,List.map_nil,List.cons.injEq,and_true] at h;exact ⟨q,r,s,rfl,h.1,h.2.1,h.2.2⟩
 . simp at h
theorem MJ{α:Type}{x y:α}{f:Operand->α}{b:Array Operand}(h:b.toList.map f=[x,y]):∃q r,b=#[q,r]/\f q=x/\f r=y:=by
 obtain ⟨l⟩:=b;simp only at h;cases l with
 | nil=>simp at h
 | cons q r=>
   cases r with
   | nil=>simp at h
   | cons e g=>
     cases g with
     | nil=>simp only[B4,List.map_nil,List.cons.injEq,and_true] at h;exact ⟨q,e,rfl,h.1,h.2⟩
     | cons _ _=>simp at h
theorem TR(g:Rel c st a w F M){o:Oper}{cl:Call}{b:Builtin}(E:o.op= .call cl)(hb:cl.callee= .builtin b){q:Nat}{k:D->Hp->Prop}
   (h:TS P st q b cl.argTypes (cl.args.toList.map (ev st)) k):
   ∃d h' v w' M',k d h'/\Rel c {st with hp:=h'} a w' F M'/\DR F w' M' (sg h') d v/\(execOp a.eval o).run P w= .ok (.value v) w':=by
 unfold TS at h;generalize B:cl.args.toList.map (ev st)=l at h;split at h
 ·
   rename_i x;obtain ⟨i,I3,rfl⟩:=Anm B;split at h
   case h_2=>exact h.elim
   rename_i t I;obtain ⟨d,v,f,h2,j⟩:=Acm (P:=P) h (Di g i) cl.argTypes o.type I;exact ⟨d,_,v,w,M,f,g,h2,by simp[execOp,E,hb,resolve,invoke,builtin,I3,j]⟩
 ·
   rename_i s x;obtain ⟨u,i,I3,rfl,rfl⟩:=MJ B;split at h
   case h_2=>exact h.elim
   rename_i t t2 I K;obtain ⟨d,h',v,w',M',f,h2,j,Q⟩:=Atw (P:=P) (ty:=o.type) g (Di g u) (Di g i) h;have e:Builtin.append_ cl.argTypes o.type #[a.eval u,a.eval i]=Builtin.append_ #[t,t2] o.type #[a.eval u,a.eval i]:=by
     simp[Builtin.append_,I,K]
   exact ⟨d,h',v,w',M',f,h2,j,by simp[execOp,E,hb,resolve,invoke,builtin,I3,e,Q]⟩
 ·
   rename_i s x;obtain ⟨u,i,I3,rfl,rfl⟩:=MJ B;split at h
   case h_2=>exact h.elim
   rename_i t t2 I K;obtain ⟨d,h',v,w',M',f,h2,j,Q⟩:=Aq2 (P:=P) (t2:=t2) (ty:=o.type) g (Di g u) (Di g i) h;have e:Builtin.copy_ cl.argTypes o.type #[a.eval u,a.eval i]=Builtin.copy_ #[t,t2] o.type #[a.eval u,a.eval i]:=by
     simp[Builtin.copy_,I]
   exact ⟨d,h',v,w',M',f,h2,j,by simp[execOp,E,hb,resolve,invoke,builtin,I3,e,Q]⟩
 ·
   rename_i S x T y;obtain ⟨i,r,I3,hx,N⟩:=MJ B;obtain ⟨rfl,H⟩:=h;have f:=Di g i;have h2:=Di g r;rw[hx] at f;rw[N] at h2;generalize m:a.eval i=vx at f;generalize n:a.eval r=vy at h2;cases f with | p f=>cases f;cases h2 with | p h2=>
     cases h2;exact ⟨_,_,_,w,M,H,g,.p (.int _ _),by simp[execOp,E,hb,resolve,invoke,builtin,I3,m,n,run_min_int2]⟩
 ·
   rename_i S x T y;obtain ⟨i,r,I3,hx,N⟩:=MJ B;obtain ⟨rfl,H⟩:=h;have f:=Di g i;have h2:=Di g r;rw[hx] at f;rw[N] at h2;generalize m:a.eval i=vx at f;generalize n:a.eval r=vy at h2;cases f with | p f=>cases f;cases h2 with | p h2=>
     cases h2;exact ⟨_,_,_,w,M,H,g,.p (.int _ _),by simp[execOp,E,hb,resolve,invoke,builtin,I3,m,n,run_max_int2]⟩
 . rename_i S x T y W z;obtain ⟨i,r,U,I3,hx,N,V⟩:=Acj B;obtain ⟨⟨rfl,rfl⟩,H⟩:=h;have f:=Di g i;have h2:=Di g r;have j:=Di g U;rw[hx] at f;rw[N] at h2;rw[V] at j;generalize m:a.eval i=vx at f;generalize n:a.eval r=vy at h2;generalize R:a.eval U=vz at j;cases f with | p f=>cases f;cases h2 with | p h2=>cases h2;cases j with | p j=>
     cases j;exact ⟨_,_,_,w,M,H,g,.p (.int _ _),by simp[execOp,E,hb,resolve,invoke,builtin,I3,m,n,R,An0]⟩
 . exact h.elim
theorem Awg(l:Rel c st a w F M){o:Oper}{f:AM}{args:AD}{g:AH}{cap:Ai}{K:St->Prop}(j:Ez o.op=some (f,args))(t:ev st f= .fn g cap)
   (u:LD P st.hp g (args.map (ev st)++cap) (o.dst.getD 0) λ d h'=>K (({st with hp:=h'}:St).put o.dst d)) (Q:Exit->Act->World->Prop):o.wp P a w (Good c K) Q:=by
 unfold Ez at j;split at j
 case h_2=>cases j
 rename_i cl QV;split at j
 case h_2=>cases j
 rename_i n p;simp only[Bo,Cs] at j;obtain ⟨rfl,rfl⟩:=j;have b:=Di l n;rw[t] at b;generalize k:a.eval n=vf at b;cases b with
 | fn _ _ Aem x r=>
   have Ng:=(YY l cl.args.toList).append (cs':=cap) (vs':=Aem.toList) ⟨by simpa using x,λ i e s=>by have:=r i e s;simpa [List.getD,Array.getD_eq_getD_getElem?] using this⟩;rcases w8 (vs:=cl.args.map a.eval++Aem) l (by simpa using Ng) u with ⟨Lc,V4⟩ | ⟨v,q,Rr,y,d,h2,F2,M2,m,Sc,JE,J9⟩
   . have ET:(execOp a.eval o).run P w= .ok (.enter g (cl.args.map a.eval++Aem)) w:=by
       simp only[execOp,QV,p,resolve,k,Deferred.ofValue,Sem.run_bind,Sem.run_pure,Result.andThen_ok,invoke,Array.empty_append];exact Lc
     unfold Oper.wp;rw[ET];refine V4.mono ?_;rintro e q ⟨v,d,h2,F2,M2,rfl,Sc,JE,J9⟩;exact ⟨_,F2,M2,Sc,JE.put J9 o.dst⟩
   . have ET:(execOp a.eval o).run P w= .ok (.value v) q:=by
       simp only[execOp,QV,p,resolve,k,Deferred.ofValue,Sem.run_bind,Sem.run_pure,Result.andThen_ok,invoke,Array.empty_append];exact Rr
     cases m;unfold Oper.wp;rw[ET];exact ⟨_,F2,M2,Sc,JE.put J9 o.dst⟩
theorem Yr(j:Rel c st a w F M){s:Bool}{o:Oper}{K:St->Prop}(h:Yu P s o K st)(Q:Exit->Act->World->Prop):o.wp P a w (Good c K) Q:=by
 have val:∀{d v},K (st.put o.dst d)->DR F w M (sg st.hp) d v->(execOp a.eval o).run P w= .ok (.value v) w->o.wp P a w (Good c K) Q:=by
   intro d v m n ET;unfold Oper.wp;rw[ET];exact ⟨_,F,M,m,j.put n o.dst⟩
 have l:Bpf P c st a w F o (λ d h=>K (({st with hp:=h}:St).put o.dst d))->o.wp P a w (Good c K) Q:=by
   rintro ⟨d,t,v,u,F',M',m,Ql,R,n,ET⟩;unfold Oper.wp;rcases ET with ET | ⟨rfl,ET⟩
   . rw[ET];exact ⟨_,F',M',m,Ql.put n o.dst⟩
   . rw[ET];exact ⟨_,F',M',m,Ql.put n o.dst⟩
 have other:(Ps P st o).all (λ x=>K (({st with hp:=x.2}:St).put o.dst x.1))->o.wp P a w (Good c K) Q:=by
   intro h;unfold Ps at h;split at h
   . rename_i cl p;split at h
     . rename_i b hb;obtain ⟨d,t,v,u,M',m,Ql,n,ET⟩:=TR j p hb (RD (k:=λ d h=>K (({st with hp:=h}:St).put o.dst d)) h);unfold Oper.wp;rw[ET];exact ⟨_,F,M',m,Ql.put n o.dst⟩
     . exact h.elim
   . exact l (JA j (MH h))
   . exact l (JA j (MH h))
   . exact l (JA j (MH h))
   . exact l (JA j (MH h))
   . exact l (JA j (MH h))
   . exact l (JA j (MH h))
   . exact l (JA j (MH h))
   . have N:=Amb (Rs.Dg (λ d n=>n.2) (Rs.all_bind h));obtain ⟨d,v,m,n,ET⟩:=Agc j N;exact val m n ET
 unfold Yu at h;split at h
 . rename_i f args p;unfold Ez at p;split at p
   case h_2=>cases p
   rename_i cl QV;split at p
   case h_2=>cases p
   rename_i H I;simp only[Bo,Cs] at p;obtain ⟨rfl,rfl⟩:=p;rcases Rs.Jn h with h | h
   case inr=>exact h.2 c a w F M Q j
   have q:=Di j H;unfold KH at h;split at h
   case h_2=>exact h.elim
   rename_i g cap z;rw[z] at q;generalize r:a.eval H=vf at q;cases q with
   | fn _ _ Aem T S=>
     have Ng:=(YY j cl.args.toList).append (cs':=cap) (vs':=Aem.toList) ⟨by simpa using T,λ i e z=>by have:=S i e z;simpa [List.getD,Array.getD_eq_getD_getElem?] using this⟩;have hb:=RF (k:=λ E h=>RC (s=true/\Vu P o K st) P h g E (o.dst.getD 0) λ d t=>K (({st with hp:=t}:St).put o.dst d)) (Rs.Dg (λ x hx=>hx.2) (Rs.all_bind h));obtain ⟨E,t,F',m,Ql,R,U,y⟩:=Pt _ _ j Ng hb;rcases Zf m with m | m
     case inr=>exact m.2 c a w F M Q j
     rcases w8 (vs:=cl.args.map a.eval++Aem) Ql (by simpa using y) m with ⟨Lc,V4⟩ | ⟨v,u,Rr,V,d,h2,F2,M2,B,Sc,JE,J9⟩
     . have ET:(execOp a.eval o).run P w= .ok (.enter g (cl.args.map a.eval++Aem)) w:=by
         simp only[execOp,QV,I,resolve,r,Deferred.ofValue,Sem.run_bind,Sem.run_pure,Result.andThen_ok,invoke,Array.empty_append];exact Lc
       unfold Oper.wp;rw[ET];refine V4.mono ?_;rintro e u ⟨v,d,h2,F2,M2,rfl,Sc,JE,J9⟩;exact ⟨_,F2,M2,Sc,JE.put J9 o.dst⟩
     . have ET:(execOp a.eval o).run P w= .ok (.value v) u:=by
         simp only[execOp,QV,I,resolve,r,Deferred.ofValue,Sem.run_bind,Sem.run_pure,Result.andThen_ok,invoke,Array.empty_append];exact Rr
       cases B;unfold Oper.wp;rw[ET];exact ⟨_,F2,M2,Sc,JE.put J9 o.dst⟩
 . rcases Rs.Jn h with h | h
   . exact other h
   . exact h.2 c a w F M Q j
theorem ZZ(n:Rel c st a w F M){ops:Array Oper}{o:Oper}{yes no:Prop}(h:IU st ops.toList o.guard yes no):
   (Region.wanted o (yielded ops a.tmps)=true/\yes)∨(Region.wanted o (yielded ops a.tmps)=false/\no):=by
 unfold IU at h;split at h
 . rename_i k;exact .inl ⟨by simp[Region.wanted,k],h⟩
 . rename_i j want k;have i:∀{d:D},((ops.toList[j]?).bind (·.dst)).bind (get st.env)=some d->∃t,(ops[j]?).bind (·.dst)=some t/\DR F w M (sg st.hp) d (a.tmps.getD t undef):=by
     intro d g;rw[Cx] at g;cases m:(ops[j]?).bind (·.dst) with
     | none=>rw[m] at g;cases g
     | some t=>rw[m] at g;exact ⟨t,rfl,n.env t d g⟩
   split at h
   . rename_i b hb;obtain ⟨t,l,h2⟩:=i hb;have q:a.tmps[t]?=some (.bool b):=by
       generalize f:a.tmps.getD t undef=v at h2;cases h2 with | p h2=>
         cases h2;rw[Bs] at f;cases hx:a.tmps[t]? with
         | none=>rw[hx] at f;simp[undef] at f
         | some u=>rw[hx] at f;simp at f;rw[f]
     have r:Region.wanted o (yielded ops a.tmps)=(b==want):=by
       simp only[Region.wanted,k,yielded,l,Bd,q];cases b<;>cases want<;>rfl
     rw[r];by_cases e:(b==want)=true
     . exact .inl ⟨e,h.1 e⟩
     . exact .inr ⟨by simpa using e,h.2 (by simpa using e)⟩
   . rename_i hb;obtain ⟨t,l,h2⟩:=i hb;refine .inr ⟨?_,h⟩;simp only[Region.wanted,k,yielded,l,Bd];generalize f:a.tmps.getD t undef=v at h2;cases h2 with
     | Em _ x s _=>
       rw[Bs] at f;cases hx:a.tmps[t]? with
       | none=>rfl
       | some u=>rw[hx] at f;simp at f;rw[f];rfl
   . exact h.elim
theorem Rel.drew(e:Rel c st a w F M):Rel c st a {w with drawn:=w.drawn+1} F M:=by
 have f:=Ea.refl M (sg st.hp);refine ⟨λ t d g=>(e.env t d g).keep (λ _ _=>rfl) (λ _ h=>h) f,e.size,e.defers,e.heap.keep (λ _ _=>rfl) (λ _ _=>rfl),?_⟩;have b:=e.keep;exact ⟨b.os,b.tape,b.output,b.size,b.Ua,b.F0,b.Fn,b.Fl,b.own,b.sgk,b.s0b⟩
theorem Vx{Q:Exit->Act->World->Prop}{s:Bool}{K:St->Prop}(ops:Array Oper)(f:∀a w,Good c K a w->Q .normal a w):∀(l:As) {st:St} {a:Act} {w:AI} {F:Nat->Prop} {M:Nat->Mb},
   Rel c st a w F M->Af6 P s ops.toList l K st->wpList P ops Q l a w
 | [],st,a,w,F,M,e,h=>f _ _ ⟨st,F,M,h,e⟩
 | o::rest,st,a,w,F,M,e,h=>by
   simp only[Af6] at h;refine wpList_step λ KK b=>?_;have yes:Yu P s o (Af6 P s ops.toList rest K) st->o.wp P a w KK Q:=λ k=>
     Oper.wp_mono (λ q r ⟨p,F',M',m,h2⟩=>b _ _ (Vx ops f rest h2 m)) (Yr e k Q)
   have no:Af6 P s ops.toList rest K (st.put o.dst (.Em []))->KK (a.put o.dst undef) w:=λ g=>
     b _ _ (Vx ops f rest (e.put (.Em [] #[] rfl (λ i d n=>by simp at n)) o.dst) g)
   rcases ZZ e h with ⟨j,k⟩ | ⟨j,g⟩
   . rw[if_pos j];exact yes k
   . rw[if_neg (by rw[j];simp)];exact no g
theorem Bc5{K:St->Prop}{Q:Exit->St->Prop}{e:Exit}{a:Act}{w:AI}{N:Act->World->Prop}(f:∀st F M,K st->Rel c st a w F M->N a w)(h:QC c (thn K Q) e a w):Exit.then N (QC c Q) e a w:=by
 obtain ⟨st,F,M,b,h2⟩:=h;cases e<;>first
   | exact f st F M b h2
   | exact ⟨st,F,M,b,h2⟩
theorem Bp2{id:Nat}{Q:Exit->St->Prop}{e:Exit}{a:Act}{w:AI}(h:QC c (Fm id Q) e a w):Exit.inBlock id (QC c Q) e a w:=by
 obtain ⟨st,F,M,b,h2⟩:=h;cases e with
 | exit Wv=>
   simp only[Fm] at b;simp only[Exit.inBlock];split at b
   . rename_i e;rw[if_pos e];exact ⟨st,F,M,b,h2⟩
   . rename_i e;rw[if_neg e];exact ⟨st,F,M,b,h2⟩
 | _=>exact ⟨st,F,M,b,h2⟩
theorem KR:∀(x:Code) {Q:Exit->St->Prop} {st:St} {a:Act} {w:AI} {F:Nat->Prop} {M:Nat->Mb},Rel c st a w F M->wA P x Q st->x.wp P (QC c Q) a w
 | .skip,Q,st,a,w,F,M,f,h=>wp_skip ⟨st,F,M,h,f⟩
 | .label _,Q,st,a,w,F,M,f,h=>wp_label ⟨st,F,M,h,f⟩
 | .ret,Q,st,a,w,F,M,f,h=>wp_ret ⟨st,F,M,h,f⟩
 | .exit id,Q,st,a,w,F,M,f,h=>wp_exit ⟨st,F,M,h,f⟩
 | .goto l,Q,st,a,w,F,M,f,h=>wp_goto ⟨st,F,M,h,f⟩
 | .seq x y,Q,st,a,w,F,M,f,h=>by
   simp only[wA] at h;exact wp_seq (Code.wp_mono (λ e i k g=>Bc5 (λ st F M j h2=>KR y h2 j) g) (KR x f h))
 | .cond q x y,Q,st,a,w,F,M,f,h=>by
   simp only[wA] at h;have g:=Di f q;split at h
   . rename_i b hb;rw[hb] at g;generalize o:a.eval q=v at g;cases g with | p g=>
       cases g;exact wp_cond_split o (λ e=>KR x f (h.1 e)) (λ e=>KR y f (h.2 e))
   . exact h.elim
 | .block id x,Q,st,a,w,F,M,f,h=>by
   simp only[wA] at h;exact wp_block (Code.wp_mono (λ e i k g=>Bp2 g) (KR x f h))
 | .loop x,Q,st,a,w,F,M,f,h=>by
   simp only[wA] at h;obtain ⟨n,h⟩:=h;refine wp_loop_rounds n ?_;have key:∀(n:Nat) (st:St) (a:Act) (w:AI) (F:Nat->Prop) (M:Nat->Mb),Rel c st a w F M->Am8 (wA P x) Q n st->Code.rounds P x (QC c Q) n a w:=by
     intro n
     induction n with
     | zero=>intro st a w F M _ h;exact h.elim
     | succ n r=>
       intro st a w F M f h;rw[rounds_succ];obtain ⟨Lt,Rp,h⟩:=h;obtain ⟨F1,M1,KF⟩:=Rp c a w F M f;exact Code.wp_mono (λ e i k g=>Bc5 (λ st F M j h2=>r st _ _ F M h2 j) g) (KR x KF h)
   exact key n st a w F M f h
 | .scope x,Q,st,a,w,F,M,f,h=>by
   simp only[wA] at h;exact h c a w F M f
 | .region id ops draw,Q,st,a,w,F,M,f,h=>by
   simp only[wA] at h;rcases h with ⟨rfl,h⟩ | ⟨rfl,h⟩
   . exact wp_region_list (Vx ops (λ i k m=>m) ops.toList f h)
   . exact h c a w F M f
 | .rangeFunc ..,Q,st,a,w,F,M,f,h=>by simp only[wA] at h
 | .refuse _,Q,st,a,w,F,M,f,h=>by simp only[wA] at h
end
end Go.Am
namespace Go.Am
open Go
def XH:Nat->Ai->Ar
 | _,[]=>[]
 | k,d::r=>(k,d)::XH (k+1) r
def Aff(P:AK)(st:St):List ResultVar->(Ai->Prop)->Prop
 | [],k=>k []
 | .tmp t::r,k=>Aff P st r λ a=>k ((get st.env t).getD .bad::a)
 | .cell t T::r,k=>Ah8 P st.hp T ((get st.env t).getD .bad) λ d=>Aff P st r λ a=>k (d::a)
def Ajp:Ai->D
 | [d]=>d
 | a=> .Em a
def UF(T:Aq)(id:Nat):Option Nat:=if base<=id then (if id∈T then some id else none) else idx (T.filter (· <base)) 0 id
def pick(h:Hp)(ρ:Nat->Option Nat):Aq->Hp
 | []=>[]
 | id::r=>match get h id,ρ id with
   | some o,some j=>(j,o.GA ρ)::pick h ρ r
   | _,_=>pick h ρ r
def R8(h0:Aq)(a:Hp)(d:D)(R:Hp->D->Prop):Prop:=
 let T:=FO a (h0++d.ids)
 T.Nodup/\(T.all λ id=>(get a id).isSome)=true/\(h0.all λ id=>base<=id&&T.contains id)=true/\(T.filter (· <base)).length<=base/\
 R (pick a (UF T) T) (d.GA (UF T))
def XI(h0:Aq)(a:Hp)(d:D)(R:Hp->D->Prop):Prop:=
 R8 h0 a d R∨HH a d λ b e=>R8 h0 e b R
def Cah(P:AK)(fn:Func)(h0:Aq)(R:Hp->D->Prop):Exit->St->Prop
 | .normal,a | .ret,a=>Aff P a fn.results.toList λ b=>XI h0 a.hp (Ajp b) R
 | _,_=>False
section
variable {P:AK} {c:Ctx} {st:St} {a:Act} {w:AI} {F:Nat->Prop} {M:Nat->Mb}
theorem Ahe:∀(ds:Ai) (k t:Nat) (d:D),get (XH k ds) t=some d->k<=t/\ds[t - k]?=some d
 | [],k,t,d,h=>by simp[XH,get] at h
 | x::r,k,t,d,h=>by
   simp only[XH,Dj] at h;split at h
   . rename_i e;cases h;subst e;exact ⟨Bk _,AT⟩
   . obtain ⟨b,h2⟩:=Ahe r (k+1) t d h;exact ⟨AQ,by rw[show t - k=(t - (k+1))+1 from by omega];simpa using h2⟩
theorem Rel.start{h:Hp}{args:Ai}{vs:Array Value}{n:Nat}(Qp:HR F w M h)(Uh:∀b,F b->b<w.heap.size)(Xn:∀id,sg h id≠none->base<=id)(f:Nk F w M (sg h) args vs.toList)(k:args.length<=n):
   Rel ⟨w,F,Hn M h,M,sg h⟩ ⟨XH 0 args,h,n⟩ {tmps:=vs++Array.replicate (n - vs.size) undef,defers:=[]} w F M:=by
 have j:vs.size=args.length:=by simpa using f.1
 refine ⟨λ t d i=>?_,AW,rfl,Qp,⟨rfl,rfl,rfl,Bk _,λ _ _ _=>rfl,λ _ h=>h,λ _ h=> .inl h,Uh,λ _ h=> .inl h,Ea.refl _ _,Xn⟩⟩;obtain ⟨_,h2⟩:=Ahe args 0 t d i;have g:=f.2 t d (by simpa using h2);have Dv:=(Bn.1 h2).1;have e:(vs++Array.replicate (n - vs.size) undef).getD t undef=vs.toList.getD t undef:=by
   rw[Bs,Bu,Array.getElem?_append,if_pos AQ,Cx]
 rw[e];exact g
theorem VL(e:Rel c st a w F M):∀(l:List ResultVar) {k:Ai->Prop},Aff P st l k->
   ∃ds vs,k ds/\Nk F w M (sg st.hp) ds vs/\(l.mapM λ | .tmp t=>pure (a.tmps.getD t undef) | .cell q t=>do loadVar t (<-asAddr (a.tmps.getD q undef)):Sem At).run P w= .ok vs w
 | [],k,h=>⟨[],[],h,⟨rfl,λ i d b=>by simp at b⟩,AT⟩
 | .tmp t::r,k,h=>by
   simp only[Aff] at h;obtain ⟨ds,vs,g,h2,j⟩:=VL e r h;have b:DR F w M (sg st.hp) ((get st.env t).getD .bad) (a.tmps.getD t undef):=Di e (.tmp t);refine ⟨_,a.tmps.getD t undef::vs,g,⟨by simp[h2.1],λ i d Ym=>?_⟩,?_⟩
   . cases i with
     | zero=>simp only[List.getElem?_cons_zero,Option.some.injEq] at Ym;subst Ym;simpa [List.getD] using b
     | succ i=>simp only[List.getElem?_cons_succ] at Ym;simpa [List.getD] using h2.2 i d Ym
   . rw[List.mapM_cons,Sem.run_bind,Sem.run_pure,Result.andThen_ok,Sem.run_bind,j];rfl
 | .cell t T::r,k,h=>by
   simp only[Aff] at h;have b:DR F w M (sg st.hp) ((get st.env t).getD .bad) (a.tmps.getD t undef):=Di e (.tmp t);obtain ⟨d,v,n,o,f⟩:=ZQ e.heap h b;obtain ⟨ds,vs,g,h2,j⟩:=VL e r n;refine ⟨_,v::vs,g,⟨by simp[h2.1],λ i d Ym=>?_⟩,?_⟩
   . cases i with
     | zero=>simp only[List.getElem?_cons_zero,Option.some.injEq] at Ym;subst Ym;simpa [List.getD] using o
     | succ i=>simp only[List.getElem?_cons_succ] at Ym;simpa [List.getD] using h2.2 i d Ym
   . have p:(do loadVar T (<-asAddr (a.tmps.getD t undef)):Sem Value).run P w= .ok v w:=by
       generalize a.tmps.getD t undef=x at f;cases x<;>simp[Instr.loadAt,Instr.sureAddr] at f;rename_i m;cases m<;>simp[Instr.sureAddr] at f
       simpa [asAddr] using f
     rw[List.mapM_cons,Sem.run_bind,p,Result.andThen_ok,Sem.run_bind,j];rfl
theorem Arf{s:Nat->Option Sg}{ds:Ai}{vs:At}(h:Nk F w M s ds vs):DR F w M s (Ajp ds) (if hx:vs.toArray.size=1 then vs.toArray[0] else .tuple vs.toArray):=by
 have b:=h.1;have Em:ds.length≠1->Ajp ds= .Em ds:=by
   intro EG;cases ds with
   | nil=>rfl
   | cons d r=>cases r with
     | nil=>simp at EG
     | cons _ _=>rfl
 by_cases e:ds.length=1
 . obtain ⟨d,rfl⟩:=List.length_eq_one_iff.1 e;obtain ⟨v,rfl⟩:=List.length_eq_one_iff.1 (b.trans e);have:=h.2 0 d rfl
   simpa [Ajp,List.getD] using this
 . rw[Em e,dif_neg AW];exact .Em ds vs.toArray (by simpa using b) (λ i d f=>by have:=h.2 i d f;simpa [List.getD,Array.getD_eq_getD_getElem?] using this)
theorem Qr{h:Hp}{ρ:Nat->Option Nat}:∀{T:Aq} {j:Nat} {o:AO},get (pick h ρ T) j=some o->∃id f,id∈T/\ρ id=some j/\get h id=some f/\o=f.GA ρ
 | [],j,o,b=>by simp[pick,get] at b
 | id::r,j,o,b=>by
   simp only[pick] at b;split at b
   . rename_i f k n m;rw[Dj] at b;split at b
     . rename_i e;subst e;cases b;exact ⟨id,f,AT,m,n,rfl⟩
     . obtain ⟨i,l,g,h2⟩:=Qr b;exact ⟨i,l,by simp[g],h2⟩
   . obtain ⟨i,l,g,h2⟩:=Qr b;exact ⟨i,l,by simp[g],h2⟩
theorem Z1{h:Hp}{ρ:Nat->Option Nat}(YT:∀i n j,ρ i=some j->ρ n=some j->i=n):∀{T:Aq} {id j:Nat} {o:AO},id∈T->ρ id=some j->get h id=some o->
   get (pick h ρ T) j=some (o.GA ρ)
 | [],id,j,o,g,_,_=>by simp at g
 | x::r,id,j,o,g,f,m=>by
   simp only[pick];by_cases e:x=id
   . subst e;rw[m,f];simp[Dj]
   . have l:id∈r:=by
       rcases BU.1 g with b | b
       . exact (e b.symm).elim
       . exact b
     have p:=Z1 YT l f m;split
     . rename_i u k t s;rw[Dj,if_neg (λ q=>e (YT x id j (by rw[s,q]) f))];exact p
     . exact p
theorem Bci{T:Aq}(hlen:(T.filter (· <base)).length<=base)(i k j:Nat)(h:UF T i=some j)(h':UF T k=some j):i=k:=by
 unfold UF at h h';by_cases f:base<=i<;>by_cases g:base<=k
 . rw[if_pos f] at h;rw[if_pos g] at h';split at h<;>split at h'<;>simp_all
 . rw[if_pos f] at h;rw[if_neg g] at h';obtain ⟨p,rfl,b⟩:=Of _ _ _ _ h';split at h
   . simp only[Bo] at h;have:=(Bn.1 b).1;omega
   . cases h
 . rw[if_neg f] at h;rw[if_pos g] at h';obtain ⟨p,rfl,b⟩:=Of _ _ _ _ h;split at h'
   . simp only[Bo] at h';have:=(Bn.1 b).1;omega
   . cases h'
 . rw[if_neg f] at h;rw[if_neg g] at h';obtain ⟨p,rfl,b⟩:=Of _ _ _ _ h;obtain ⟨l,m,e⟩:=Of _ _ _ _ h';have:p=l:=AQ;subst this;rw[b] at e;exact (Bf e)
theorem N6(E:Rel c st a w F M){h0:Hp}(y:c.s0=sg h0)(S:∀b,c.O0 b↔Hn c.M0 h0 b){d:D}{v:AJ}{R:Hp->D->Prop}(U:DR F w M (sg st.hp) d v)(h:R8 (h0.map (·.1)) st.hp d R):
   ∃h' r M',R h' r/\HR F w M' h'/\DR F w M' (sg h') r v/\Au5 c w F M' h':=by
 unfold R8 at h;generalize FO st.hp (h0.map (·.1)++d.ids)=T at h;obtain ⟨hT,FE,x,hlen,N⟩:=h;have YT:=Bci hlen
 let M':Nat->Mb:=λ j=>if base<=j then M j else M ((T.filter (· <base)).getD j 0)
 have z:∀id j,UF T id=some j->id∈T/\M' j=M id:=by
   intro id j g;unfold UF at g;by_cases e:base<=id
   . rw[if_pos e] at g;split at g
     . rename_i t;simp only[Bo] at g;subst g;exact ⟨t,by simp only[M',if_pos e]⟩
     . cases g
   . rw[if_neg e] at g;obtain ⟨i,rfl,l⟩:=Of _ _ _ _ g;have Dv:=(Bn.1 l).1;refine ⟨(List.mem_filter.1 (Bt l)).1,?_⟩;simp only[M'];rw[if_neg AQ,Bu,B2,l,BP]
 have Lz:∀id j,UF T id=some j->sg st.hp id≠none->M' j=M id/\sg (pick st.hp (UF T) T) j=sg st.hp id:=by
   intro id j g u;obtain ⟨t,Q⟩:=z id j g;refine ⟨Q,?_⟩;cases s:get st.hp id with
   | none=>exact (u (by simp[sg,s])).elim
   | some o=>
     have:=Z1 YT t g s;simp[sg,this,s,AO.Arw]
 have DD:∀b,Hn M' (pick st.hp (UF T) T) b->Hn M st.hp b:=by
   rintro b ⟨j,o,g,s⟩;obtain ⟨id,B,t,f,h2,rfl⟩:=Qr g;rw[(z id j f).2] at s;exact ⟨id,B,h2,(AO.J0 _ _ _ _).1 s⟩
 refine ⟨_,_,M',N,?_,U.GA Lz,?_⟩
 . constructor
   . intro j o g;obtain ⟨id,B,t,f,h2,rfl⟩:=Qr g;rw[(z id j f).2];exact (E.heap.obj id B h2).GA Lz
   . intro j o Y o' b g I4 s Ud;obtain ⟨id,B,t,f,h2,rfl⟩:=Qr g;obtain ⟨Wv,I,V,Hc,LC,rfl⟩:=Qr I4;rw[(z id j f).2] at s;rw[(z Wv Y Hc).2] at Ud;have:=E.heap.inj id B Wv I b h2 LC ((AO.J0 _ _ _ _).1 s) ((AO.J0 _ _ _ _).1 Ud);subst this;rw[f] at Hc;exact Bf Hc
 . have m:=E.keep;have Bok:∀id,sg h0 id≠none->base<=id/\id∈T:=by
     intro id u;have JN:id∈h0.map (·.1):=by
       clear y S x N
       induction h0 with
       | nil=>simp[sg,get] at u
       | cons q r W=>
         obtain ⟨k,o⟩:=q;simp only[B4,BU];by_cases e:id=k
         . exact .inl e
         . right;apply W
           simpa [sg,Dj,Ne.symm e] using u
     have:=BB.1 x id JN;simp only[Bz,BI] at this;exact ⟨this.1,by simpa using this.2⟩
   have Akn:∀id,sg h0 id≠none->UF T id=some id:=λ id u=>by
     obtain ⟨f,h2⟩:=Bok id u;unfold UF;rw[if_pos f,if_pos h2]
   refine ⟨m.os,m.tape,m.output,m.size,m.Ua,m.F0,m.Fn,m.Fl,λ b hb=>m.own b (DD b hb),?_,m.s0b⟩;have K9:=m.sgk;rw[y] at K9 ⊢;refine ⟨λ id l=>?_,λ id K n l=>?_,λ id K n kk l=>?_⟩
   . obtain ⟨f,h2⟩:=K9.1 id l;have p:=Lz id id (Akn id (by rw[l];simp)) (by rw[f];simp);exact ⟨by rw[p.2,f],by rw[p.1,h2]⟩
   . obtain ⟨H,f,Hc,h2⟩:=K9.2.1 id K n l;have p:=Lz id id (Akn id (by rw[l];simp)) (by rw[f];simp);exact ⟨H,by rw[p.2,f],Hc,λ e=>by rw[p.1,h2 e]⟩
   . obtain ⟨H,Z,f,Hc,Boj,h2,LC⟩:=K9.2.2 id K n kk l;have p:=Lz id id (Akn id (by rw[l];simp)) (by rw[f];simp);exact ⟨H,Z,by rw[p.2,f],Hc,Boj,λ e=>by rw[p.1];exact h2 e,λ e=>by rw[p.1];exact LC e⟩
theorem Bbq{f:AH}{fn:Func}{code:Code}{args:Ai}{h:Hp}{R:Hp->D->Prop}{Q:Exit->St->Prop}(E:P.funcs[f]?=some fn)(hb:fn.body=some code)(Lc:Enters P f)
   (H:args.length<=fn.ntmps) (z:∀e st,Q e st->Cah P fn (h.map (·.1)) R e st) (I:wA P code Q ⟨XH 0 args,h,fn.ntmps⟩):C3 P f args h R:=by
 refine λ K w F M Qp Uh Xn B=> .inl ⟨Lc K w,calls_of_wp E hb (Code.wp_mono ?_ (KR code (Rel.start Qp Uh Xn B H) I))⟩;rintro e a b ⟨st,F',M',p,l⟩;have s:=z e st p;have key:Aff P st fn.results.toList (λ q=>XI (h.map (·.1)) st.hp (Ajp q) R)->a.defers=[]/\∃v,(results fn a.tmps).run P b= .ok v b/\
     ∃u g r F' M',Ending.returned v=Ending.returned u/\R g r/\HR F' b M' g/\DR F' b M' (sg g) r u/\Au5 ⟨w,F,Hn M h,M,sg h⟩ b F' M' g:=by
   intro OU;obtain ⟨q,i,j,h2,x⟩:=VL l _ OU;have t:=Arf h2;refine ⟨l.defers,(if hx:i.toArray.size=1 then i.toArray[0] else .tuple i.toArray),?_,?_⟩;rotate_left
   . rcases j with j | j
     . obtain ⟨g,r,M2,k,m,n,o⟩:=N6 l rfl (λ _=>Iff.rfl) t j;exact ⟨_,g,r,F',M2,rfl,k,m,n,o⟩
     . obtain ⟨N,LC,F2,k,JE,y,Vk,J9⟩:=RG _ l t j;obtain ⟨g,r,M2,k,m,n,o⟩:=N6 JE rfl (λ _=>Iff.rfl) J9 k;exact ⟨_,g,r,F2,M2,rfl,k,m,n,o⟩
   . unfold results;rw[Sem.run_bind,Array.mapM_eq_mapM_toList,Sem.run_map];refine (B3 (λ r=>(r.andThen λ a b=>Result.ok a.toArray b).andThen λ (a:Array Value) b=>Sem.run P (pure (if h:a.size=1 then a[0] else Value.tuple a)) b) x).trans ?_;simp
 cases e<;>first
   | exact key s
   | exact s.elim
end
end Go.Am
namespace Go.Am
open Go
theorem nd.{u}{α:Sort u}{a b:α}(h:a=b):a=b:=h
def Ajx(P:AK)(st:St):List ResultVar->Rs Ai
 | []=> .ret True []
 | .tmp t::r=>(Ajx P st r).bind λ a=> .ret True ((get st.env t).getD .bad::a)
 | .cell t T::r=>(Tf P st.hp T ((get st.env t).getD .bad)).bind λ d=>(Ajx P st r).bind λ a=> .ret True (d::a)
theorem Ac2{P}{st}:∀{b:List ResultVar} {k:Ai->Prop},(Ajx P st b).all k->Aff P st b k
 | [],k,h=>h.2
 | .tmp t::r,k,h=>by
   simp only[Ajx] at h;simp only[Aff];exact Ac2 (Rs.Dg (λ e a=>a.2) (Rs.all_bind h))
 | .cell t T::r,k,h=>by
   simp only[Ajx] at h;simp only[Aff];exact Ah7 (Rs.Dg (λ d a=>Ac2 (Rs.Dg (λ e a=>a.2) (Rs.all_bind a))) (Rs.all_bind h))
inductive Kt where
 | user (Q:Exit->St->Prop)
 | fin (rs:List ResultVar) (h0:Aq) (R:Hp->D->Prop)
 | seq (y:Code) (k:Kt)
 | Fm (id:Nat) (k:Kt)
 | lp (x:Code) (n:Nat) (k:Kt)
def Kt.Ij(P:AK):Kt->Exit->St->Prop
 | .user Q=>Q
 | .fin g f R=>λ e a=>match e with
   | .normal | .ret=>(Ajx P a g).all λ b=>XI f a.hp (Ajp b) R
   | _=>False
 | .seq y k=>thn (wA P y (k.Ij P)) (k.Ij P)
 | .Fm id k=>Go.Am.Fm id (k.Ij P)
 | .lp x n k=>thn (Am8 (wA P x) (k.Ij P) n) (k.Ij P)
def X(P:AK)(c:Code)(k:Kt)(st:St):Prop:=wA P c (k.Ij P) st
def J(P:AK)(k:Kt)(e:Exit)(st:St):Prop:=k.Ij P e st
def O(P:AK)(s:Bool)(ops rest:As)(k:Kt)(st:St):Prop:=Af6 P s ops rest (k.Ij P .normal) st
def L(P:AK)(x:Code)(k:Kt)(n:Nat)(st:St):Prop:=Am8 (wA P x) (k.Ij P) n st
def Af(P:AK)(s:Bool)(ops rest:As)(k:Kt)(o:Oper)(st:St)(r:Rs (D×Hp)):Prop:=
 r.OF (s=true/\Vu P o (O P s ops rest k) st) λ x=>O P s ops rest k (({st with hp:=x.2}:St).put o.dst x.1)
def Cl(P:AK)(s:Bool)(ops rest:As)(k:Kt)(o:Oper)(st:St)(r:Rs (FuncId×Ai×Hp)):Prop:=
 r.OF (s=true/\Vu P o (O P s ops rest k) st) λ x=>RC (s=true/\Vu P o (O P s ops rest k) st) P x.2.2 x.1 x.2.1 (o.dst.getD 0) λ d a=>O P s ops rest k (({st with hp:=a}:St).put o.dst d)
def Do(P:AK)(s:Bool)(ops rest:As)(k:Kt)(o:Oper)(st:St):Prop:=Yu P s o (Af6 P s ops rest (k.Ij P .normal)) st
def Cn(P:AK)(x y:Code)(k:Kt)(st:St)(d:D):Prop:=match d with
 | .p (.bool b)=>WIf b (X P x k st) (X P y k st)
 | _=>False
inductive Gv where
 | yes | no | cond (b:Bool) | bad
def PM(st:St)(ops:As)(g:Option (Nat×Bool)):Gv:=
 match g with
 | none=> .yes
 | some (j,want)=>match ((ops[j]?).bind (·.dst)).bind (get st.env) with
   | some (.p (.bool b))=> .cond (b==want)
   | some (.Em [])=> .no
   | _=> .bad
def Gu(P:AK)(s:Bool)(ops rest:As)(k:Kt)(o:Oper)(st:St):Gv->Prop
 | .yes=>Do P s ops rest k o st
 | .no=>O P s ops rest k (st.put o.dst (.Em []))
 | .cond b=>WIf b (Do P s ops rest k o st) (O P s ops rest k (st.put o.dst (.Em [])))
 | .bad=>False
section
variable {P:AK} {s:Bool} {ops rest l:As} {k:Kt} {st:St} {x y:Code} {id i n:Nat} {o:Oper} {dst:Option Nat} {b:Bool}
theorem Bp6:X P .skip k st=J P k .normal st:=nd rfl
theorem Bkj:X P (.label i) k st=J P k .normal st:=nd rfl
theorem Bti:X P .ret k st=J P k .ret st:=nd rfl
theorem Bp8:X P (.exit i) k st=J P k (.exit i) st:=nd rfl
theorem Bp7:X P (.goto i) k st=J P k (.goto i) st:=nd rfl
theorem Bth:X P (.seq x y) k st=X P x (.seq y k) st:=nd rfl
theorem Bp9(c:AM):X P (.cond c x y) k st=Cn P x y k st (ev st c):=nd rfl
theorem Bkk:X P (.block id x) k st=X P x (.Fm id k) st:=nd rfl
theorem Bhp:X P (.region id l.toArray false) k st=O P true l l k st:=by
 unfold X O;simp[wA]
theorem Aty(n:Nat)(h:L P x k n st):X P (.loop x) k st:=⟨n,h⟩
theorem Alm:J P (.seq y k) .normal st=X P y k st:=nd rfl
theorem Bbd:J P (.seq y k) .ret st=J P k .ret st:=nd rfl
theorem Au7:J P (.seq y k) (.exit i) st=J P k (.exit i) st:=nd rfl
theorem Au6:J P (.seq y k) (.goto i) st=J P k (.goto i) st:=nd rfl
theorem Alo:J P (.Fm id k) .normal st=J P k .normal st:=nd rfl
theorem Bbh:J P (.Fm id k) .ret st=J P k .ret st:=nd rfl
theorem Au8:J P (.Fm id k) (.exit i) st=if i=id then J P k .normal st else J P k (.exit i) st:=nd rfl
theorem Aqs:J P (.lp x n k) .normal st=L P x k n st:=nd rfl
theorem Bhy:J P (.lp x n k) .ret st=J P k .ret st:=nd rfl
theorem Bbf:J P (.lp x n k) (.exit i) st=J P k (.exit i) st:=nd rfl
theorem Btk:O P s ops [] k st=J P k .normal st:=nd rfl
theorem Bpe:O P s ops (o::rest) k st=Gu P s ops rest k o st (PM st ops o.guard):=by
 unfold O Gu PM;simp only[Af6,IU];cases o.guard with
 | none=>rfl
 | some g=>
   obtain ⟨j,want⟩:=g;simp only;cases ((ops[j]?).bind (·.dst)).bind (get st.env) with
   | none=>rfl
   | some d=>
     cases d with
     | p q=>cases q<;>rfl
     | Em cs=>cases cs<;>rfl
     | _=>rfl
theorem Bpi:Gu P s ops rest k o st .yes=Do P s ops rest k o st:=nd rfl
theorem Btn:Gu P s ops rest k o st .no=O P s ops rest k (st.put o.dst (.Em [])):=nd rfl
theorem Bkm:Gu P s ops rest k o st (.cond true)=Do P s ops rest k o st:=by simp[Gu]
theorem Bi1:Gu P s ops rest k o st (.cond false)=O P s ops rest k (st.put o.dst (.Em [])):=by simp[Gu]
theorem Bts:Do P s ops rest k o st=match Ez o.op with
   | some (f,args)=>Cl P s ops rest k o st (KH st f args)
   | none=>Af P s ops rest k o st (Ps P st o):=by
 unfold Do Yu Cl Af;cases Ez o.op<;>rfl
theorem Bpz(p:Prop)(d:D)(h:Hp):Af P s ops rest k o st (.ret p (d,h))=(p/\O P s ops rest k (({st with hp:=h}:St).put o.dst d)):=nd rfl
theorem Bkz(r a:Rs (D×Hp)):Af P s ops rest k o st (.split true r a)=Af P s ops rest k o st r:=by simp[Af,Rs.OF]
theorem Bi6(r a:Rs (D×Hp)):Af P s ops rest k o st (.split false r a)=Af P s ops rest k o st a:=by simp[Af,Rs.OF]
theorem Bku:Cn P x y k st (.p (.bool true))=X P x k st:=by simp[Cn]
theorem Bi5:Cn P x y k st (.p (.bool false))=X P y k st:=by simp[Cn]
theorem D5(a:b=true->X P x k st)(h2:b=false->X P y k st):Cn P x y k st (.p (.bool b)):=⟨a,h2⟩
def Sm(P:AK)(s:Bool)(ops rest:As)(k:Kt)(o:Oper)(st:St):Prop:=s=true/\Vu P o (O P s ops rest k) st
def Ck(P:AK)(s:Bool)(ops rest:As)(k:Kt)(dst:Option Nat)(st:St)(f:AH)(ds:Ai)(h:Hp)(T:Aq)(S:Prop):Prop:=
 (C3 P f (M8 (idx T base) ds) (sub h (idx T base) base T) λ a r=>fresh (dst.getD 0) h a/\O P s ops rest k (({st with hp:=merge T (dst.getD 0) h a}:St).put dst (r.GA (back T (dst.getD 0)))))∨S
theorem Bpv(p:Prop)(f:AH)(ds:Ai)(h:Hp):Cl P s ops rest k o st (.ret p (f,ds,h))=
   (p/\(FO h (E8 ds)).Nodup/\((FO h (E8 ds)).all λ id=>(get h id).isSome)=true/\Ck P s ops rest k o.dst st f ds h (FO h (E8 ds)) (Sm P s ops rest k o st)):=nd rfl
def En(P:AK)(h0:Aq)(R:Hp->D->Prop)(e:Hp)(r:Rs Ai):Prop:=r.all λ a=>XI h0 e (Ajp a) R
theorem Bbg(a:List ResultVar)(h0:Aq)(R:Hp->D->Prop):J P (.fin a h0 R) .ret st=En P h0 R st.hp (Ajx P st a):=nd rfl
theorem Aln(a:List ResultVar)(h0:Aq)(R:Hp->D->Prop):J P (.fin a h0 R) .normal st=En P h0 R st.hp (Ajx P st a):=nd rfl
theorem Bpu(h0:Aq)(R:Hp->D->Prop)(a:Hp)(p:Prop)(ds:Ai):En P h0 R a (.ret p ds)=(p/\XI h0 a (Ajp ds) R):=nd rfl
theorem Bge{h0:Aq}{a:Hp}{d:D}{R:Hp->D->Prop}(h:R8 h0 a d R):XI h0 a d R:= .inl h
theorem Ba6{h0:Aq}{a:Hp}{d:D}{R:Hp->D->Prop}(h:(Er a d).all λ x=>R8 h0 x.2 x.1 R):XI h0 a d R:= .inr (Zg (k:=λ d h=>R8 h0 h d R) h)
theorem Dx{f:AH}{fn:Func}{code:Code}{args:Ai}{h:Hp}{R:Hp->D->Prop}(g:P.funcs[f]?=some fn)(hb:fn.body=some code)(Lc:Enters P f)
   (j:args.length<=fn.ntmps) (m:X P code (.fin fn.results.toList (h.map (·.1)) R) ⟨XH 0 args,h,fn.ntmps⟩):C3 P f args h R:=by
 refine Bbq g hb Lc j (λ e st a=>?_) m;cases e<;>first
   | exact Ac2 a
   | exact a.elim
theorem C5{x:Int}(h0:-9223372036854775808<=x)(a:x<=9223372036854775807):IntKind.i64.wrap x=x:=by rw[IntKind.wrap_i64];omega
attribute [go_sem] Bp6 Bkj Bti Bp8 Bp7 Bth Bp9 Bkk Bhp Alm Bbd Au7 Au6 Alo Bbh Au8 Aqs Bhy Bbf Btk Bpe Bpi Btn Bkm Bi1 Bts Bpz Bkz Bi6 Bku Bi5 Bpv Bbg Aln Bpu PM Ez KH Ps NM Rn MI FM Acn Ah9 Ib As9 Aer Er JQ Aet Vr Vs Ajt u9 PF Afe Afh MC XG Aen LV GY Aki HN Akr Kl Av9 Aul unR Bkb Avc Tf VP Agy Ajx Rs.bind Rs.and get ev St.put Dn Ajp M9 UG D.one D.cells D.stored TK.isAgg chunk froze XH J2 Rh E8 D.ids ghost V5 FO Ig ML AO.ids idx sub Atl
attribute [go_sem] IP Bnj TK.Bnq TK.Bd8 Bl6 D.Bd7 Ak8 ifD Acw asD asV Ve List.isEmpty_cons List.isEmpty_nil Bool.and_false Bool.false_and Option.some.injEq reduceCtorEq if_true if_false
attribute [go_sem] Adn TQ Qj npT D.Afk List.any_cons List.any_nil Bool.or_self Bool.false_or Bool.or_false Bool.true_or Bool.or_true Bool.false_eq_true
attribute [go_sem] List.getElem?_toArray List.size_toArray true_and and_true Option.getD_some Option.getD_none Nat.zero_add List.map_cons List.map_nil Option.bind_some Option.bind_none List.getElem?_cons_zero List.getElem?_cons_succ List.getElem?_nil List.length_cons List.length_nil List.cons_append List.nil_append List.append_nil List.all_cons List.all_nil Bool.and_self Option.isSome_some List.nodup_nil List.drop_zero List.take_zero List.drop_succ_cons List.take_succ_cons List.drop_nil List.take_nil beq_self_eq_true beq_true beq_false Bool.not_true Bool.not_false Option.map_some Option.map_none Bool.true_and Bool.and_true List.replicate_succ List.replicate_zero ne_eq not_false_eq_true not_true_eq_false and_self
end
end Go.Am
namespace Go.Am
open Go
def Vj(o:Op):Bool:=
 match o with
 | .call c=>match c.callee with
   | .builtin .len | .builtin .min | .builtin .max=>true
   | _=>false
 | .alloc _ | .box _ _ | .store _ _ _ | .buildSlice _ _ _ | .makeSlice _ _ _ | .makeMap _ _ | .mapUpdate _ _ _ _=>false
 | _=>true
section
variable {P:AK} {c:Ctx} {st:St} {a:Act} {w:AI} {F:Nat->Prop} {M:Nat->Mb}
theorem Awv(n:Rel c st a w F M){o:Oper}(i:Vj o.op=true){K:St->Prop}(h:Yu P false o K st):
   ∃d v,K (st.put o.dst d)/\DR F w M (sg st.hp) d v/\(execOp a.eval o).run P w= .ok (.value v) w:=by
 have T:Ez o.op=none:=by
   cases e:o.op<;>simp only[e,Vj] at i<;>simp only[Ez];rename_i cl;cases S:cl.callee<;>simp only[S] at i
   . exact (BV i).elim
   . rfl
   . rfl
 unfold Yu at h;rw[T] at h;simp only at h;rcases Rs.Jn h with h | h
 case inr=>exact (BV h.1).elim
 unfold Ps at h;split at h
 . rename_i cl e;rw[e] at i;split at h
   . rename_i b hb;have g:=RD (k:=λ d h=>K (({st with hp:=h}:St).put o.dst d)) h;simp only[Vj,hb] at i;unfold TS at g;generalize E:cl.args.toList.map (ev st)=l at g;split at g
     . obtain ⟨q,I3,rfl⟩:=Anm E;split at g
       case h_2=>exact g.elim
       rename_i t U;obtain ⟨d,v,f,h2,s⟩:=Acm (P:=P) g (Di n q) cl.argTypes o.type U;exact ⟨d,v,f,h2,by simp[execOp,e,hb,resolve,invoke,builtin,I3,s]⟩
     . simp at i
     . simp at i
     . obtain ⟨d,W,v,Z,M',u,Ql,I,ET⟩:=TR n e hb (RD (k:=λ d h=>K (({st with hp:=h}:St).put o.dst d)) h);rename_i N x Q y;obtain ⟨q,r,I3,hx,B⟩:=MJ E;obtain ⟨rfl,u⟩:=g;have f:=Di n q;have h2:=Di n r;rw[hx] at f;rw[B] at h2;generalize j:a.eval q=vx at f;generalize m:a.eval r=vy at h2;cases f with | p f=>cases f;cases h2 with | p h2=>
         cases h2;exact ⟨_,_,u,.p (.int _ _),by simp[execOp,e,hb,resolve,invoke,builtin,I3,j,m,run_min_int2]⟩
     . rename_i N x Q y;obtain ⟨q,r,I3,hx,B⟩:=MJ E;obtain ⟨rfl,u⟩:=g;have f:=Di n q;have h2:=Di n r;rw[hx] at f;rw[B] at h2;generalize j:a.eval q=vx at f;generalize m:a.eval r=vy at h2;cases f with | p f=>cases f;cases h2 with | p h2=>
         cases h2;exact ⟨_,_,u,.p (.int _ _),by simp[execOp,e,hb,resolve,invoke,builtin,I3,j,m,run_max_int2]⟩
     . rename_i N x Q y Y z;obtain ⟨q,r,R,I3,hx,B,V⟩:=Acj E;obtain ⟨⟨rfl,rfl⟩,u⟩:=g;have f:=Di n q;have h2:=Di n r;have s:=Di n R;rw[hx] at f;rw[B] at h2;rw[V] at s;generalize j:a.eval q=vx at f;generalize m:a.eval r=vy at h2;generalize H:a.eval R=vz at s;cases f with | p f=>cases f;cases h2 with | p h2=>cases h2;cases s with | p s=>
         cases s;exact ⟨_,_,u,.p (.int _ _),by simp[execOp,e,hb,resolve,invoke,builtin,I3,j,m,H,An0]⟩
     . exact g.elim
   . exact h.elim
 . rename_i e;rw[e] at i;simp[Vj] at i
 . rename_i e;rw[e] at i;simp[Vj] at i
 . rename_i e;rw[e] at i;simp[Vj] at i
 . rename_i e;rw[e] at i;simp[Vj] at i
 . rename_i e;rw[e] at i;simp[Vj] at i
 . rename_i e;rw[e] at i;simp[Vj] at i
 . rename_i e;rw[e] at i;simp[Vj] at i
 . have f:=Amb (Rs.Dg (λ d I=>I.2) (Rs.all_bind h));exact Agc n f
end
end Go.Am
namespace Go.Am
open Go
theorem A2{p:Prop}(h:p:=by simp[D.ids]):p:=h
mutual
theorem VM {ρ:Nat->Option Nat}:∀{d:D},(∀id∈d.ids,ρ id=some id)->d.GA ρ=d
  | .p _,_=>rfl
  | .agg cs,h=>by simp only[D.GA];rw[Xc (cs:=cs) h]
  | .Em cs,h=>by simp only[D.GA];rw[Xc (cs:=cs) h]
  | .cl _,_=>rfl
  | .cz _,_=>rfl
  | .ref id _ _ _,h=>by simp only[D.GA];rw[h id A2]
  | .ptr id _,h=>by simp only[D.GA];rw[h id A2]
  | .pe _,_=>rfl
  | .ea id _ _ _,h=>by simp only[D.GA];rw[h id A2]
  | .fn f cs,h=>by simp only[D.GA];rw[Xc (cs:=cs) h]
  | .np,_=>rfl
  | .mv id,h=>by simp only[D.GA];rw[h id A2]
  | .E3 id _,h=>by simp only[D.GA];rw[h id A2]
  | .R9 id _ _,h=>by simp only[D.GA];rw[h id A2]
  | .nr id _ _ _,h=>by simp only[D.GA];rw[h id A2]
  | .WE,_=>rfl
  | .bad,_=>rfl
theorem Xc {ρ:Nat->Option Nat}:∀{cs:Ai},(∀id∈E8 cs,ρ id=some id)->M8 ρ cs=cs
  | [],_=>rfl
  | d::r,h=>by
    simp only[M8];rw[VM (d:=d) (λ id hi=>h id (by simp[E8,hi])),Xc (cs:=r) (λ id hi=>h id (by simp[E8,hi]))]
end
def LeE(env:Ar):Ar->Prop
 | []=>True
 | (t,d)::r=>get env t=some d/\LeE env r
def KN(h:Hp):Hp->Prop
 | []=>True
 | (id,o)::r=>get h id=some o/\KN h r
def JP:Ar->Aq
 | []=>[]
 | (_,d)::r=>d.ids++JP r
def JF:Hp->Aq
 | []=>[]
 | (_,o)::r=>o.ids++JF r
def OG(a:Hp):Hp->Prop
 | []=>True
 | (id,o)::r=>(base<=id->get a id=some o)/\OG a r
def Le(st Lt:St):Prop:=
 Lt.n=st.n/\LeE st.env Lt.env/\KN st.hp Lt.hp/\((JP Lt.env++JF Lt.hp).all λ id=>(get Lt.hp id).isSome)=true/\OG Lt.hp st.hp
theorem LeE.spec{env}:∀{a:Ar},LeE env a->∀t d,get a t=some d->get env t=some d
 | [],_,t,d,h=>by simp[get] at h
 | (k,x)::r,b,t,d,h=>by
   rw[Dj] at h;split at h
   . rename_i e;subst e;cases h;exact b.1
   . exact b.2.spec t d h
theorem KN.spec{h}:∀{b:Hp},KN h b->∀id o,get b id=some o->get h id=some o
 | [],_,t,d,a=>by simp[get] at a
 | (k,x)::r,f,t,d,a=>by
   rw[Dj] at a;split at a
   . rename_i e;subst e;cases a;exact f.1
   . exact f.2.spec t d a
theorem OG.spec{b}:∀{h:Hp},OG b h->∀id o,base<=id->get h id=some o->get b id=some o
 | [],_,t,d,_,a=>by simp[get] at a
 | (k,x)::r,f,t,d,hb,a=>by
   rw[Dj] at a;split at a
   . rename_i e;subst e;cases a;exact f.1 hb
   . exact f.2.spec t d hb a
theorem Ado:∀{env:Ar} {t:Nat} {d:D} {id:Nat},get env t=some d->id∈d.ids->id∈JP env
 | [],t,d,id,h,_=>by simp[get] at h
 | (k,x)::r,t,d,id,h,a=>by
   rw[Dj] at h;simp only[JP,BC];split at h
   . cases h;exact .inl a
   . exact .inr (Ado h a)
theorem YR:∀{h:Hp} {j:Nat} {o:AO} {id:Nat},get h j=some o->id∈o.ids->id∈JF h
 | [],t,d,id,h,_=>by simp[get] at h
 | (k,x)::r,t,d,id,h,a=>by
   rw[Dj] at h;simp only[JF,BC];split at h
   . cases h;exact .inl a
   . exact .inr (YR h a)
theorem AO.VM{ρ}{o:AO}(h:∀id∈o.ids,ρ id=some id):o.GA ρ=o:=by
 cases o with
 | box cs e=>simp only[AO.GA];rw[Xc (cs:=cs) h]
 | Yo t b a i c d=>simp only[AO.GA];rw[Go.Am.VM (d:=d) h]
 | _=>rfl
theorem Wk.refl(st):Wk st st:=λ _ _ _ F M h=>⟨F,M,h⟩
theorem Wk.trans{a b c}(h:Wk a b)(h':Wk b c):Wk a c:=λ x y w F M f=>let ⟨F1,M1,e⟩:=h x y w F M f;h' x y w F1 M1 e
theorem Rel.forget{c}{st Lt}{a}{w}{F:Nat->Prop}{M}(l:Rel c st a w F M)(h:Le st Lt):Rel c Lt a w F M:=by
 have B:=l.keep.s0b;obtain ⟨E,y,m,Boc,z⟩:=h;have Vl:∀id,id∈JP Lt.env++JF Lt.hp->∃o,get Lt.hp id=some o:=λ id f=>Cj.1 (BB.1 Boc id f)
 let ρ:Nat->Option Nat:=λ id=>if (get Lt.hp id).isSome then some id else none
 have u:∀id j,ρ id=some j->sg st.hp id≠none->M j=M id/\sg Lt.hp j=sg st.hp id:=by
   intro id j p _;simp only[ρ] at p;split at p
   . rename_i H;simp only[Bo] at p;subst p;obtain ⟨o,e⟩:=Cj.1 H;refine ⟨rfl,?_⟩;simp[sg,e,m.spec _ _ e]
   . cases p
 have hid:∀id,(∃o,get Lt.hp id=some o)->ρ id=some id:=λ id ⟨o,e⟩=>by simp[ρ,e]
 constructor
 . intro t d s;have:=(l.env t d (y.spec t d s)).GA (M':=M) u;rwa[VM (λ id f=>hid id (Vl id (CC _ (Ado s f))))] at this
 . rw[E];exact l.size
 . exact l.defers
 . constructor
   . intro id o e;have:=(l.heap.obj id o (m.spec id o e)).GA (M':=M) u;rwa[AO.VM (λ i f=>hid i (Vl i (List.mem_append_right _ (YR e f))))] at this
   . intro id o Wv N b e Ud DD FB;exact l.heap.inj id o Wv N b (m.spec _ _ e) (m.spec _ _ Ud) DD FB
 . have g:=l.keep;refine ⟨g.os,g.tape,g.output,g.size,g.Ua,g.F0,g.Fn,g.Fl,?_,?_,g.s0b⟩
   . rintro b ⟨id,o,e,DD⟩;exact g.own _ ⟨id,o,m.spec _ _ e,DD⟩
   . have K9:=g.sgk;have Dr:∀id,c.s0 id≠none->sg st.hp id≠none->sg Lt.hp id=sg st.hp id:=by
       intro id v k;have hb:=B id v;cases e:get st.hp id with
       | none=>exact (k (by simp[sg,e])).elim
       | some o=>simp[sg,e,z.spec id o hb e]
     refine ⟨λ id f=>?_,λ id r n f=>?_,λ id r n K f=>?_⟩
     . obtain ⟨k,h2⟩:=K9.1 id f;exact ⟨by rw[Dr id (by rw[f];simp) (by rw[k];simp)];exact k,h2⟩
     . obtain ⟨q,k,h2,x⟩:=K9.2.1 id r n f;exact ⟨q,by rw[Dr id (by rw[f];simp) (by rw[k];simp)];exact k,h2,x⟩
     . obtain ⟨q,I,k,h2⟩:=K9.2.2 id r n K f;exact ⟨q,I,by rw[Dr id (by rw[f];simp) (by rw[k];simp)];exact k,h2⟩
theorem Wk.forget{st Lt}(h:Le st Lt):Wk st Lt:=λ _ _ _ F M a=>⟨F,M,a.forget h⟩
section
variable {P:AK} {st:St} {x:Code} {k:Kt}
theorem Wk.nil{t q sz:Nat}(e:AG)(p:get st.env t=some (.cl []))(m:get st.hp q=none)(o:0<sz):Wk st ⟨(t,.ref q 0 0 0)::st.env,(q,.arr e sz [])::st.hp,st.n⟩:=by
 intro c a w F M f;obtain ⟨KF,l⟩:=f.Acg (e:=e) m o;refine ⟨F,_,⟨λ j d b=>?_,KF.size,KF.defers,KF.heap,KF.keep⟩⟩;rw[Dj] at b;split at b
 . rename_i i;subst i;cases b;have h2:=f.env _ _ p;generalize a.tmps.getD t undef=v at h2;cases h2 with | cl _ g _ _=>exact l g
 . exact KF.env j d b
theorem Bbc{Lt:St}{n:Nat}(e:Wk st Lt)(h:L P x k n Lt):L P x k n st:=by
 cases n with
 | zero=>exact h.elim
 | succ n=>obtain ⟨a,b,h2⟩:=h;exact ⟨a,e.trans b,h2⟩
theorem Dq{β:Type}(S:β->St)(I:β->Prop)(μ:β->Nat)(e:β)(h0:I e)(g:Wk st (S e))
   (f:∀b n,I b->(∀a st',I a->μ a<μ b->Wk st' (S a)->L P x k n st')->X P x (.lp x n k) (S b)):X P (.loop x) k st:=by
 have key:∀n b,I b->μ b<n->L P x k n (S b):=by
   intro n
   induction n with
   | zero=>intro b _ h;exact (B6 _ h).elim
   | succ n i=>
     intro b hb j;exact ⟨S b,Wk.refl _,f b n hb λ a st' YU Dv Rp=>Bbc Rp (i a YU AQ)⟩
 exact Aty _ (Bbc g (key (μ e+1) e h0 (Nat.lt_succ_self _)))
end
end Go.Am
namespace Go.Am
open Go
def Rt(h0:Aq)(a:Hp)(d:D)(R:Hp->D->Prop)(T:Aq):Prop:=
 T.Nodup/\(T.all λ id=>(get a id).isSome)=true/\(h0.all λ id=>base<=id&&T.contains id)=true/\(T.filter (· <base)).length<=base/\
 R (pick a (UF T) T) (d.GA (UF T))
theorem Biq(h0)(hp)(d)(R:Hp->D->Prop):R8 h0 hp d R=Rt h0 hp d R (FO hp (h0++d.ids)):=nd rfl
def Ep(h0:Aq)(R:Hp->D->Prop)(r:Rs (D×Hp)):Prop:=r.all λ x=>R8 h0 x.2 x.1 R
theorem Bpt(h0)(R:Hp->D->Prop)(p:Prop)(d)(h):Ep h0 R (.ret p (d,h))=(p/\R8 h0 h d R):=nd rfl
theorem Ds{h0}{a}{d}{R:Hp->D->Prop}(h:Ep h0 R (Er a d)):XI h0 a d R:=Ba6 h
theorem DF{h0}{a}{d}{R:Hp->D->Prop}(h:R8 h0 a d R):XI h0 a d R:=Bge h
theorem Boq(h0)(hp)(x)(R:Hp->D->Prop):XI h0 hp (.p x) R=R8 h0 hp (.p x) R:=by
 unfold XI;simp only[HH,bor,or_self]
attribute [go_sem] Biq Bpt Boq D.GA M8
end Go.Am
end
