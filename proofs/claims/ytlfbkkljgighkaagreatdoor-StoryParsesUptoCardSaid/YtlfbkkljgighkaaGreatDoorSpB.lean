/- Texts of this proof, what it rests on, merged: part B. -/
import Derived.LoopN
import Derived.Scope
import Derived.Deep.Quiet
import Derived.Test.YtlfbkkljgighkaaGreatDoorSpA
section
set_option linter.unusedVariables false
set_option linter.unusedSimpArgs false
namespace Go.Am
open Go
def bor(h:Hp)(d:D)(k:D->Hp->Prop):Prop:=
 match d with
 | .ref id off len N=>match get h id with
   | some (.arr _ _ a)=>N=a.length/\k (.p (.sl ((a.drop off).take len))) (froze h id)
   | some (.Om _ a)=>N=a.length/\k (.p (.sl ((a.drop off).take len))) h
   | _=>False
 | .E8 id n=>match get h id with
   | some (.Fi _ _ e b rows none)=>n=rows.length/\k (.p (.sl (rows.map λ r=>[.sl r]))) (Dq h id (.Ik (Gm (.Fi e rows.length b))))
   | _=>False
 | .cl a=>k (.p (.sl a)) h
 | d=>k d h
mutual
def HM (h:Hp) (d:D) (k:D->Hp->Prop):Prop:=
  match d with
  | .agg cs=>Ys h cs λ ds h'=>k (.agg ds) h'
  | .Em cs=>Ys h cs λ ds h'=>k (.Em ds) h'
  | d=>bor h d k
def Ys:Hp->Ah->(Ah->Hp->Prop)->Prop
  | h,[],k=>k [] h
  | h,d::r,k=>HM h d λ x h'=>Ys h' r λ xs h''=>k (x::xs) h''
end
def Bdn(P:AK)(h:Hp)(t:AG)(x:D)(k:D->Prop):Prop:=
 match Dz P t with
 | some b=>match b.k,x with
   | .string,.p (.str l)=>k (.p (.int .i64 l.length))
   | .slice _,.p (.sl a)=>k (.p (.int .i64 a.length))
   | .slice _,.cl a=>k (.p (.int .i64 a.length))
   | .slice _,.ref id _ len N=>(match sg h id with | some (.arr _ m)=>N=m | _=>False)/\k (.p (.int .i64 len))
   | .slice _,.E8 _ n=>k (.p (.int .i64 n))
   | .slice _,.nr _ _ len _=>k (.p (.int .i64 len))
   | .array n _,_=>k (.p (.int .i64 n))
   | _,_=>False
 | none=>False
def T7(P:AK)(st:St)(q:Nat)(b:Builtin)(f:Array TypeId)(args:Ah)(k:D->Hp->Prop):Prop:=
 match b,args with
 | .len,[x]=>match f[0]? with
   | some t=>Bdn P st.hp t x λ d=>k d st.hp
   | none=>False
 | .append,[s,x]=>match f[0]?,f[1]? with
   | some t,some i=>Bib P st.hp q t i s x k
   | _,_=>False
 | .copy,[s,x]=>match f[0]?,f[1]? with
   | some t,some _=>Bho P st.hp t s x k
   | _,_=>False
 | .min,[.p (.int a x),.p (.int e y)]=>a=e/\k (.p (.int a (if y<x then y else x))) st.hp
 | .max,[.p (.int a x),.p (.int e y)]=>a=e/\k (.p (.int a (if x<y then y else x))) st.hp
 | .min,[.p (.int a x),.p (.int e y),.p (.int g z)]=>(a=e/\e=g)/\k (.p (.int a (if z<(if y<x then y else x) then z else (if y<x then y else x)))) st.hp
 | _,_=>False
inductive Rs (α:Type) where
 | fail
 | ret (p:Prop) (a:α)
 | split (b:Bool) (x y:Rs α)
def Rs.all{α:Type}:Rs α->(α->Prop)->Prop
 | .fail,_=>False
 | .ret p a,k=>p/\k a
 | .split b x y,k=>WIf b (x.all k) (y.all k)
def Rs.and{α:Type}(p:Prop):Rs α->Rs α
 | .fail=> .fail
 | .ret q a=> .ret (p/\q) a
 | .split b x y=> .split b (x.and p) (y.and p)
def Rs.bind{α β:Type}:Rs α->(α->Rs β)->Rs β
 | .fail,_=> .fail
 | .ret p a,f=>(f a).and p
 | .split b x y,f=> .split b (x.bind f) (y.bind f)
theorem WIf.mono{b}{x y x' a:Prop}(h:WIf b x y)(hx:x->x')(f:y->a):WIf b x' a:=⟨λ e=>hx (h.1 e),λ e=>f (h.2 e)⟩
def Rs.OM{α:Type}(S:Prop):Rs α->(α->Prop)->Prop
 | .fail,_=>S
 | .ret p a,k=>p/\k a
 | .split b x y,k=>WIf b (x.OM S k) (y.OM S k)
theorem Rs.Jr{α:Type}{S:Prop}{k:α->Prop}:∀{r:Rs α},r.OM S k->r.all k∨S
 | .fail,h=> .inr h
 | .ret p a,h=> .inl h
 | .split b x y,h=>by
   cases b
   . rcases Rs.Jr (h.2 rfl) with f | f
     . exact .inl ⟨λ e=>(BU e).elim,λ _=>f⟩
     . exact .inr f
   . rcases Rs.Jr (h.1 rfl) with f | f
     . exact .inl ⟨λ _=>f,λ e=>(BU e.symm).elim⟩
     . exact .inr f
theorem Rs.GH{α:Type}{p:Prop}{k:α->Prop}:∀{r:Rs α},(r.and p).all k->p/\r.all k
 | .fail,h=>h.elim
 | .ret q a,h=>⟨h.1.1,h.1.2,h.2⟩
 | .split b x y,h=>by
   have f:b=true->p/\x.all k:=λ e=>Rs.GH (h.1 e);have h2:b=false->p/\y.all k:=λ e=>Rs.GH (h.2 e);refine ⟨?_,λ e=>(f e).2,λ e=>(h2 e).2⟩;cases b
   . exact (h2 rfl).1
   . exact (f rfl).1
theorem Rs.Dh{α:Type}{k k':α->Prop}(e:∀a,k a->k' a):∀{r:Rs α},r.all k->r.all k'
 | .fail,h=>h.elim
 | .ret q a,h=>⟨h.1,e _ h.2⟩
 | .split b x y,h=>WIf.mono h (Rs.Dh e) (Rs.Dh e)
theorem Rs.all_bind{α β:Type}{f}{k:β->Prop}:∀{r:Rs α},(r.bind f).all k->r.all (λ a=>(f a).all k)
 | .fail,h=>h.elim
 | .ret p a,h=>Rs.GH h
 | .split b x y,h=>WIf.mono h Rs.all_bind Rs.all_bind
def Ahl(a:TI)(cs:Ah)(off:Nat):Rs D:=
 if a.k.isAgg then .ret (off+a.size<=cs.length) (.agg ((cs.drop off).take a.size))
 else match cs[off]? with
   | some d=> .ret True d
   | none=> .fail
theorem Y0{a}{cs}{off}{k:D->Prop}(h:(Ahl a cs off).all k):Ad1 a cs off k:=by
 unfold Ahl at h;unfold Ad1;split at h
 . rename_i e;rw[if_pos e];exact h
 . rename_i e;rw[if_neg e];split at h<;>simp_all [Rs.all]
def V9(a:TI)(cs:Av)(off:Nat):Rs D:=
 if a.k.isAgg then .ret (off+a.size<=cs.length) (.agg (((cs.drop off).take a.size).map D.p))
 else match cs[off]? with
   | some d=> .ret True (.p d)
   | none=> .fail
theorem Rp{a}{cs}{off}{k:D->Prop}(h:(V9 a cs off).all k):Vy a cs off k:=by
 unfold V9 at h;unfold Vy;split at h
 . rename_i e;rw[if_pos e];exact h
 . rename_i e;rw[if_neg e];split at h<;>simp_all [Rs.all]
def Tr(P:AK)(h:Hp)(t:AG)(d:D):Rs D:=
 match Dz P t,d with
 | some a,.ptr id off=>match get h id with
   | some (.box cs _)=>Ahl a cs off
   | _=> .fail
 | some a,.pe cs=>V9 a cs 0
 | some a,.ea id i c N=>match get h id with
   | some (.arr _ _ b)=>(V9 a (b.getD i []) c).and (N=b.length)
   | some (.Om _ b)=>(V9 a (b.getD i []) c).and (N=b.length)
   | some (.YH _ _ b f e d)=> .split (decide (i=f/\c=e)) (.ret (N=b.length/\a.k.isAgg=false) d) ((V9 a (b.getD i []) c).and (N=b.length/\a.k.isAgg=false))
   | _=> .fail
 | some a,.Sn id i n=>match get h id with
   | some (.Fi _ _ _ g rows hole)=> .ret (n=rows.length/\hole≠some i/\a.k.isAgg=false) (.nr id i (rows.getD i []).length g)
   | _=> .fail
 | _,_=> .fail
theorem Ahu{P}{h}{t}{d}{k:D->Prop}(a:(Tr P h t d).all k):Ahv P h t d k:=by
 unfold Tr at a;unfold Ahv;split at a
 . rename_i b;simp only[b];split at a
   . rename_i h2;simp only[h2];exact Y0 a
   . exact a.elim
 . rename_i b;simp only[b];exact Rp a
 . rename_i b;simp only[b];split at a
   . rename_i h2;simp only[h2];exact ⟨(Rs.GH a).1,Rp (Rs.GH a).2⟩
   . rename_i h2;simp only[h2];exact ⟨(Rs.GH a).1,Rp (Rs.GH a).2⟩
   . rename_i h2;simp only[h2];exact WIf.mono a id λ a=>⟨(Rs.GH a).1,Rp (Rs.GH a).2⟩
   . exact a.elim
 . rename_i b;simp only[b];split at a
   . rename_i h2;simp only[h2];exact a
   . exact a.elim
 . exact a.elim
def Bl0(g:BinOp)(x y:D):Rs D:=
 match g,x,y with
 | .add,.p (.int e a),.p (.int f b)=> .ret (e=f) (.p (.int e (e.wrap (a+b))))
 | .sub,.p (.int e a),.p (.int f b)=> .ret (e=f) (.p (.int e (e.wrap (a - b))))
 | .mul,.p (.int e a),.p (.int f b)=> .ret (e=f) (.p (.int e (e.wrap (a*b))))
 | .quo,.p (.int e a),.p (.int f b)=> .ret (e=f/\b≠0) (.p (.int e (e.wrap (a.tdiv b))))
 | .rem,.p (.int e a),.p (.int f b)=> .ret (e=f/\b≠0) (.p (.int e (a.tmod b)))
 | .eql,.p (.int e a),.p (.int f b)=> .ret (e=f) (.p (.bool (decide (a=b))))
 | .neq,.p (.int e a),.p (.int f b)=> .ret (e=f) (.p (.bool (!decide (a=b))))
 | .lss,.p (.int e a),.p (.int f b)=> .ret (e=f) (.p (.bool (decide (a<b))))
 | .leq,.p (.int e a),.p (.int f b)=> .ret (e=f) (.p (.bool (decide (a<=b))))
 | .gtr,.p (.int e a),.p (.int f b)=> .ret (e=f) (.p (.bool (decide (b<a))))
 | .geq,.p (.int e a),.p (.int f b)=> .ret (e=f) (.p (.bool (decide (b<=a))))
 | .and,.p (.int e a),.p (.int f b)=> .ret (e=f) (.p (.int e (e.wrap (BitVec.ofInt e.bits a&&& BitVec.ofInt e.bits b).toNat)))
 | .shr,.p (.int e a),.p (.int _ b)=> .ret (0<=b) (.p (.int e (a.fdiv (2 ^ (min b.toNat e.bits)))))
 | .add,.p (.str a),.p (.str b)=> .ret (a.length+b.length<=maxLen) (.p (.str (a++b)))
 | .eql,.p (.str a),.p (.str b)=> .ret True (.p (.bool (decide (a=b))))
 | .neq,.p (.str a),.p (.str b)=> .ret True (.p (.bool (!decide (a=b))))
 | _,_,_=> .fail
theorem Bi4{a}{x y}{k:D->Prop}(h:(Bl0 a x y).all k):Bl1 a x y k:=by
 unfold Bl0 at h;split at h<;>first
   | exact h.elim
   | exact h
   | exact ⟨h.1.1,h.1.2,h.2⟩
   | exact h.2
def Avw(P:AK)(f:BinOp)(t:AG)(x y:D):Rs D:=
 match f,x,y with
 | .eql,.p (.bool a),.p (.bool b)=>(match Dz P t with | some ⟨_,_,.bool,_⟩=> .ret True (.p (.bool (a==b))) | _=> .fail)
 | .neq,.p (.bool a),.p (.bool b)=>(match Dz P t with | some ⟨_,_,.bool,_⟩=> .ret True (.p (.bool (!(a==b)))) | _=> .fail)
 | .eql,.agg g,.agg i=>(match Aea P t g i with | some b=> .ret True (.p (.bool b)) | none=> .fail)
 | .neq,.agg g,.agg i=>(match Aea P t g i with | some b=> .ret True (.p (.bool (!b))) | none=> .fail)
 | .eql,.p (.sl e),.cl []=>(match Dz P t with | some ⟨_,_,.slice _,_⟩=> .ret (e≠[]) (.p (.bool false)) | _=> .fail)
 | .eql,.cl e,.cl []=>(match Dz P t with | some ⟨_,_,.slice _,_⟩=> .ret True (.p (.bool e.isEmpty)) | _=> .fail)
 | f,x,y=>Bl0 f x y
theorem Bbl{P}{b}{t}{x y}{k:D->Prop}(h:(Avw P b t x y).all k):T9 P b t x y k:=by
 unfold Avw at h;split at h
 . split at h
   . rename_i a;simp only[T9,a];exact h.2
   . exact h.elim
 . split at h
   . rename_i a;simp only[T9,a];exact h.2
   . exact h.elim
 . split at h
   . rename_i a;simp only[T9,a];exact h.2
   . exact h.elim
 . split at h
   . rename_i a;simp only[T9,a];exact h.2
   . exact h.elim
 . split at h
   . rename_i a;simp only[T9,a];exact h
   . exact h.elim
 . split at h
   . rename_i a;simp only[T9,a];exact h.2
   . exact h.elim
 . rename_i e f g i j l;have h2:=Bi4 h;unfold T9;split
   . exact (e _ _ rfl rfl rfl).elim
   . exact (f _ _ rfl rfl rfl).elim
   . exact (g _ _ rfl rfl rfl).elim
   . exact (i _ _ rfl rfl rfl).elim
   . exact (j _ rfl rfl rfl).elim
   . exact (l _ rfl rfl rfl).elim
   . exact h2
def unR(e:UnOp)(x:D):Rs D:=
 match e,x with
 | .not,.p (.bool b)=> .ret True (.p (.bool (!b)))
 | .neg,.p (.int a n)=> .ret True (.p (.int a (a.wrap (0 - n))))
 | _,_=> .fail
theorem Bja{a}{x}{k:D->Prop}(h:(unR a x).all k):unD a x k:=by
 unfold unR at h;split at h<;>first | exact h.elim | exact h.2
def Av6(c a b:D):Rs D:=
 match c,a,b with
 | .p (.bool t),.p (.bool x),.p (.bool y)=> .ret True (.p (.bool (if t then x else y)))
 | .p (.bool t),a,b=> .split t (.ret True a) (.ret True b)
 | _,_,_=> .fail
theorem Ax1{c x y}{k:D->Prop}(h:(Av6 c x y).all k):Anu c x y k:=by
 unfold Av6 at h;unfold Anu;split at h
 . exact h.2
 . rename_i t a b EH;split
   . rename_i g i j;exact (EH _ _ rfl rfl).elim
   . rename_i e _;cases e;exact WIf.mono h (λ h=>h.2) (λ h=>h.2)
   . rename_i f _;exact (f _ rfl).elim
 . exact h.elim
def Avt(P:AK)(s d:AG)(x:D):Rs D:=
 match Dz P s,Dz P d,x with
 | some _,some ⟨_,_,.int a,_⟩,.p (.int _ n)=> .ret True (.p (.int a (a.wrap n)))
 | some _,some ⟨_,_,.string,_⟩,.p (.str l)=> .ret True (.p (.str l))
 | some ⟨_,_,.slice e,_⟩,some ⟨_,_,.string,_⟩,.p (.sl b)=>match Dz P e,Ab6 b with
   | some ⟨_,_,.int .u8,_⟩,some l=> .ret True (.p (.str l))
   | _,_=> .fail
 | _,_,_=> .fail
theorem Bb9{P}{s d}{x}{k:D->Prop}(h:(Avt P s d x).all k):Aqn P s d x k:=by
 unfold Avt at h;unfold Aqn;split at h
 . rename_i a h2;simp only[a,h2];exact h.2
 . rename_i a h2;simp only[a,h2];exact h.2
 . rename_i a h2;simp only[a,h2];split at h
   . rename_i b e;simp only[b,e];exact h.2
   . exact h.elim
 . exact h.elim
def Au3(h:Hp)(id N:Nat):Prop:=match sg h id with | some (.arr _ m)=>N=m | _=>False
def Kn(P:AK)(t:AG)(x:D)(f:Nat)(h:Hp):Rs D:=
 match Dz P t with
 | some ⟨_,_,.struct b,_⟩=>match b[f]? with
   | some (o,u)=>match Dz P u with
     | some a=>match x with
       | .ptr id off=> .ret (a.size≠0) (.ptr id (off+o))
       | .pe cs=> .ret (a.size≠0) (.pe (cs.drop o))
       | .ea id i c N=> .ret (a.size≠0/\Au3 h id N) (.ea id i (c+o) N)
       | _=> .fail
     | none=> .fail
   | none=> .fail
 | _=> .fail
theorem Ae5{P}{t}{x}{f}{h}{k:D->Prop}(a:(Kn P t x f h).all k):Oq P t x f h k:=by
 unfold Kn at a;unfold Oq;split at a
 . rename_i b;simp only[b];split at a
   . rename_i h2;simp only[h2];split at a
     . rename_i e;simp only[e];split at a
       . exact a
       . exact a
       . exact ⟨a.1.1,a.1.2,a.2⟩
       . exact a.elim
     . exact a.elim
   . exact a.elim
 . exact a.elim
def Alc(P:AK)(t:AG)(x:D)(f:Nat):Rs D:=
 match Dz P t with
 | some ⟨_,_,.struct a,_⟩=>match a[f]?,x with
   | some (o,u),.agg cs=>match Dz P u with
     | some b=>Ahl b cs o
     | none=> .fail
   | _,_=> .fail
 | _=> .fail
theorem Atf{P}{t}{x}{f}{k:D->Prop}(a:(Alc P t x f).all k):Ae4 P t x f k:=by
 unfold Alc at a;unfold Ae4;split at a
 . rename_i b;simp only[b];split at a
   . rename_i h2;simp only[h2];split at a
     . rename_i e;simp only[e];exact Y0 a
     . exact a.elim
   . exact a.elim
 . exact a.elim
def HT(P:AK)(t:AG)(x i:D)(h:Hp):Rs D:=
 match Dz P t,i with
 | some ⟨_,_,.slice e,_⟩,.p (.int _ n)=>match Dz P e with
   | some a=>match x with
     | .p (.sl b)=> .ret ((0<=n/\n<b.length)/\(b.getD n.toNat []).length=a.size) (.pe (b.getD n.toNat []))
     | .cl b=> .ret ((0<=n/\n<b.length)/\(b.getD n.toNat []).length=a.size) (.pe (b.getD n.toNat []))
     | .ref id off len N=>match sg h id with
       | some (.arr f m)=> .ret ((0<=n/\n<len)/\f=a.size/\N=m) (.ea id (off+n.toNat) 0 N)
       | _=> .fail
     | .E8 id N=> .ret ((0<=n/\n<N)/\a.size=1) (.Sn id n.toNat N)
     | _=> .fail
   | none=> .fail
 | some ⟨_,_,.array m e,_⟩,.p (.int _ n)=>match Dz P e,x with
   | some a,.ptr id off=> .ret (0<=n/\n<m) (.ptr id (off+n.toNat*a.size))
   | some a,.pe cs=> .ret (0<=n/\n<m) (.pe (cs.drop (n.toNat*a.size)))
   | _,_=> .fail
 | _,_=> .fail
theorem Adk{P}{t}{x i}{h}{k:D->Prop}(a:(HT P t x i h).all k):Oj P t x i h k:=by
 unfold HT at a;unfold Oj;split at a
 . rename_i b;simp only[b];split at a
   . rename_i h2;simp only[h2];split at a
     . exact ⟨a.1.1,a.1.2,a.2⟩
     . exact ⟨a.1.1,a.1.2,a.2⟩
     . split at a
       . rename_i e;simp only[e];exact ⟨a.1.1,a.1.2.1,a.1.2.2,a.2⟩
       . exact a.elim
     . exact ⟨a.1.1,a.1.2,a.2⟩
     . exact a.elim
   . exact a.elim
 . rename_i b;simp only[b];split at a
   . rename_i h2;simp only[h2];exact a
   . rename_i h2;simp only[h2];exact a
   . exact a.elim
 . exact a.elim
def Al3(P:AK)(t:AG)(x i:D):Rs D:=
 match Dz P t,x,i with
 | some ⟨_,_,.string,_⟩,.p (.str l),.p (.int _ n)=> .ret (0<=n/\n<l.length) (.p (.int .u8 (l.getD n.toNat 0).toNat))
 | some ⟨_,_,.array m e,_⟩,.agg cs,.p (.int _ n)=>match Dz P e with
   | some a=>(Ahl a cs (n.toNat*a.size)).and (0<=n/\n<m)
   | none=> .fail
 | _,_,_=> .fail
theorem At0{P}{t}{x i}{k:D->Prop}(a:(Al3 P t x i).all k):Adj P t x i k:=by
 unfold Al3 at a;unfold Adj;split at a
 . rename_i b;simp only[b];exact a
 . rename_i b;simp only[b];split at a
   . rename_i h2;simp only[h2];exact ⟨(Rs.GH a).1,Y0 (Rs.GH a).2⟩
   . exact a.elim
 . exact a.elim
def G7(st:St)(o:Option Operand)(Alq:Int):Rs Int:=
 match o with
 | none=> .ret True Alq
 | some x=>match ev st x with
   | .p (.int _ n)=> .ret True n
   | _=> .fail
theorem Au8{st}{o}{n}{k:Int->Prop}(h:(G7 st o n).all k):Ig st o n k:=by
 unfold G7 at h;unfold Ig;split at h
 . exact h.2
 . split at h
   . rename_i a;simp only[a];exact h.2
   . exact h.elim
def P0(n:Nat)(es:Ae):Prop:=∀e∈es,e.length=n
theorem P0.get{n}{es}(h:P0 n es):∀(i:Nat) e,es[i]?=some e->e.length=n:=λ _ e a=>h e (Bt a)
def LX(P:AK)(st:St)(t:AG)(x:D)(i g j:Option Operand):Rs D:=
 match Dz P t,x with
 | some ⟨_,_,.string,_⟩,.p (.str l)=>(G7 st i 0).bind λ a=>(G7 st g l.length).bind λ b=>
     .ret (j.isNone=true/\(0<=a/\a<=b/\b<=l.length)) (.p (.str ((l.take b.toNat).drop a.toNat)))
 | some ⟨_,_,.slice e,_⟩,x=>match Dz P e with
   | some k=>match x with
     | .p (.sl f)=>match j with
       | none=>(G7 st i 0).bind λ a=>(G7 st g f.length).bind λ b=> .ret ((0<=a/\a<=b/\b<=f.length)/\P0 k.size f) (.p (.sl ((f.take b.toNat).drop a.toNat)))
       | some m=>(G7 st i 0).bind λ a=>(G7 st g f.length).bind λ b=>(G7 st (some m) 0).bind λ c=>
           .ret ((0<=a/\a<=b/\b=c/\c<=f.length)/\P0 k.size f/\g.isSome=true) (.cz ((f.take b.toNat).drop a.toNat))
     | .ref id off len N=>match sg st.hp id with
       | some (.arr n m)=>(G7 st i 0).bind λ a=>(G7 st g len).bind λ b=>
           .ret (j.isNone=true/\n=k.size/\(0<=a/\a<=b/\b<=len)/\N=m) (.ref id (off+a.toNat) (b - a).toNat N)
       | _=> .fail
     | _=> .fail
   | none=> .fail
 | _,_=> .fail
theorem bd{st}{o}{n}{f}{k:D->Prop}{k':Int->Prop}(h:((G7 st o n).bind f).all k)(b:∀a,(f a).all k->k' a):Ig st o n k':=
 Au8 (Rs.Dh b (Rs.all_bind h))
theorem ZC{st}{o}{n}{q:Prop}{k:Int->Prop}(h:Ig st o n (λ a=>q/\k a)):q/\Ig st o n k:=by
 unfold Ig at*;cases o with
 | none=>exact h
 | some x=>
   simp only at h ⊢;split at h
   . rename_i b;exact h
   . exact h.elim
theorem Aag{st}{o}{n}{k k':Int->Prop}(b:∀a,k a->k' a)(h:Ig st o n k):Ig st o n k':=by
 unfold Ig at*;split at h
 . exact b _ h
 . split at h
   . exact b _ h
   . exact h.elim
theorem As7{P}{st}{t}{x}{m l g}{k:D->Prop}(e:(LX P st t x m l g).all k):Acb P st t x m l g k:=by
 unfold LX at e;unfold Acb;split at e
 . rename_i f;simp only[f];refine ZC (bd e λ a h=>ZC (bd h λ b h=>?_));exact ⟨h.1.1,h.1.2,h.2⟩
 . rename_i f;split at e
   case h_2=>exact e.elim
   rename_i h2;split at e
   . rw[f];simp only[h2];split at e
     . exact bd e λ a h=>bd h λ b h=>⟨h.1.1,h.1.2.get,h.2⟩
     . exact bd e λ a h=>bd h λ b h=>bd h λ c h=>⟨h.1.1,h.1.2.1.get,h.1.2.2,h.2⟩
   . rw[f];simp only[h2];split at e
     . rename_i n;simp only[n];have o:=bd e λ a h=>bd h λ b h=>(⟨h.1.1,h.1.2.1,h.1.2.2.1,h.1.2.2.2,h.2⟩:g.isNone=true/\_/\_/\_/\_);have i:=ZC (Aag (λ a h=>ZC h) o);have j:=ZC (Aag (λ a h=>ZC h) i.2);exact ⟨i.1,j.1,j.2⟩
     . exact e.elim
   . exact e.elim
 . exact e.elim
def Afb(P:AK)(st:St)(t:AG)(parts:AF):Rs D:=
 match Dz P t with
 | some ⟨_,_,.struct f,z⟩=>
   match Ro P f,z with
   | some g,.agg a=>match J5 (λ i=>g[i]?) a (parts.map λ q=>(q.1,ev st q.2)) with
     | some cs=> .ret True (.agg cs)
     | none=> .fail
   | _,_=> .fail
 | some ⟨_,_,.array _ e,z⟩=>
   match Dz P e,z with
   | some b,.agg a=>match J5 (λ i=>some (i*b.size,b.size)) a (parts.map λ q=>(q.1,ev st q.2)) with
     | some cs=> .ret True (.agg cs)
     | none=> .fail
   | _,_=> .fail
 | _=> .fail
theorem Au6{P}{st}{t}{parts}{k:D->Prop}(a:(Afb P st t parts).all k):Afc P st t parts k:=by
 unfold Afb at a;unfold Afc;split at a
 . rename_i b;simp only[b];split at a
   . rename_i h2;simp only[h2];split at a
     . rename_i e;simp only[e];exact a.2
     . exact a.elim
   . exact a.elim
 . rename_i b;simp only[b];split at a
   . rename_i h2;simp only[h2];split at a
     . rename_i e;simp only[e];exact a.2
     . exact a.elim
   . exact a.elim
 . exact a.elim
def X1(x:D)(i:Nat):Rs D:=
 match x with
 | .Em cs=>match cs[i]? with
   | some d=> .ret True d
   | none=> .fail
 | _=> .fail
theorem Alh{x}{i}{k:D->Prop}(a:(X1 x i).all k):TD x i k:=by
 unfold X1 at a;unfold TD;split at a
 . split at a
   . rename_i b;simp only[b];exact a.2
   . exact a.elim
 . exact a.elim
def XD(P:AK)(h:Hp)(t:AG)(x i:D)(a:Bool):Rs D:= .fail
theorem Ao7{P}{h}{t}{x i}{a}{k:D->Prop}(b:(XD P h t x i a).all k):Al0 P h t x i a k:=False.elim b
def Wd(P:AK)(h:Hp)(t:AG)(m i v:D):Rs Hp:= .fail
theorem Asq{P}{h}{t}{m i v}{k:Hp->Prop}(a:(Wd P h t m i v).all k):Asr P h t m i v k:=False.elim a
def NQ(P:AK)(st:St)(e:Op):Rs D:=
 match e with
 | .move x | .assign x=> .ret True (ev st x)
 | .pick c a b=>Av6 (ev st c) (ev st a) (ev st b)
 | .binOp e t x y _=>Avw P e t (ev st x) (ev st y)
 | .unOp e _ x=>unR e (ev st x)
 | .nilCheck x=>match ev st x with
   | .ptr id off=> .ret True (.ptr id off)
   | .pe cs=> .ret True (.pe cs)
   | .ea id i c N=> .ret (Au3 st.hp id N) (.ea id i c N)
   | _=> .fail
 | .convert s d x=>Avt P s d (ev st x)
 | .build t parts=>Afb P st t parts.toList
 | .load t a=>Tr P st.hp t (ev st a)
 | .slice t x j g k=>LX P st t (ev st x) j g k
 | .fieldAddr t x f=>Kn P t (ev st x) f st.hp
 | .field t x f=>Alc P t (ev st x) f
 | .indexAddr t x i=>HT P t (ev st x) (ev st i) st.hp
 | .index t x i=>Al3 P t (ev st x) (ev st i)
 | .extract t i=>X1 (ev st t) i
 | .lookup t x i l=>XD P st.hp t (ev st x) (ev st i) l
 | .makeFunc (.func f) first cap=> .ret (first.size=0) (.fn f (cap.toList.map (ev st)))
 | .makeInterface t x=>match ifD P t (ev st x) with
   | some d=> .ret True d
   | none=> .fail
 | .typeAssert x _ t true=>match asD P t (ev st x) with
   | some d=> .ret True d
   | none=> .fail
 | _=> .fail
theorem Amq{P}{st}{e}{k:D->Prop}(a:(NQ P st e).all k):vOp P st e k:=by
 unfold NQ at a;unfold vOp;split at a
 . exact a.2
 . exact a.2
 . exact Ax1 a
 . exact Bbl a
 . exact Bja a
 . split at a
   . rename_i b;simp only[b];exact a.2
   . rename_i b;simp only[b];exact a.2
   . rename_i b;simp only[b];exact a
   . exact a.elim
 . exact Bb9 a
 . exact Au6 a
 . exact Ahu a
 . exact As7 a
 . exact Ae5 a
 . exact Atf a
 . exact Adk a
 . exact At0 a
 . exact Alh a
 . exact Ao7 a
 . exact a
 . split at a
   . rename_i b;simp only[b];exact a.2
   . exact a.elim
 . split at a
   . rename_i b;simp only[b];exact a.2
   . exact a.elim
 . exact a.elim
def Ag5(h:Hp)(d:D):Rs (Pd×Hp):=
 match d with
 | .p x=> .ret True (x,h)
 | .cl a=> .ret True (.sl a,h)
 | .cz a=> .ret True (.sl a,h)
 | .ref id off len N=>match get h id with
   | some (.arr _ _ a)=> .ret (N=a.length) (.sl ((a.drop off).take len),froze h id)
   | some (.Om _ a)=> .ret (N=a.length) (.sl ((a.drop off).take len),h)
   | _=> .fail
 | .E8 id n=>match get h id with
   | some (.Fi _ _ e b rows none)=> .ret (n=rows.length) (.sl (rows.map λ r=>[.sl r]),Dq h id (.Ik (Gm (.Fi e rows.length b))))
   | _=> .fail
 | _=> .fail
theorem Bd9{h}{d}{k:Pd->Hp->Prop}(a:(Ag5 h d).all (λ x=>k x.1 x.2)):PH h d k:=by
 unfold Ag5 at a;unfold PH;split at a
 . exact a.2
 . exact a.2
 . exact a.2
 . split at a
   . rename_i b;simp only[b];exact a
   . rename_i b;simp only[b];exact a
   . exact a.elim
 . split at a
   . rename_i b;simp only[b];exact a
   . exact a.elim
 . exact a.elim
def MH:Hp->Ah->Rs (Av×Hp)
 | h,[]=> .ret True ([],h)
 | h,d::r=>(Ag5 h d).bind λ x=>(MH x.2 r).bind λ y=> .ret True (x.1::y.1,y.2)
theorem Ahi{h}{d}{k k':Pd->Hp->Prop}(b:∀x h,k x h->k' x h)(a:PH h d k):PH h d k':=by
 unfold PH at*;cases d with
 | p x=>exact b _ _ a
 | cl e=>exact b _ _ a
 | cz e=>exact b _ _ a
 | ref id off len N=>
   simp only at a ⊢;split at a
   . exact ⟨a.1,b _ _ a.2⟩
   . exact ⟨a.1,b _ _ a.2⟩
   . exact a.elim
 | E8 id n=>
   simp only at a ⊢;split at a
   . exact ⟨a.1,b _ _ a.2⟩
   . exact a.elim
 | _=>exact a
theorem Rn:∀{ds:Ah} {h:Hp} {k k':Av->Hp->Prop},(∀x h,k x h->k' x h)->Lx h ds k->Lx h ds k'
 | [],h,k,k',b,a=>b _ _ a
 | d::r,h,k,k',b,a=>Ahi (λ x g f=>Rn (λ i e h2=>b _ _ h2) f) a
theorem Ahg:∀{ds:Ah} {h:Hp} {k:Av->Hp->Prop},(MH h ds).all (λ x=>k x.1 x.2)->Lx h ds k
 | [],h,k,a=>a.2
 | d::r,h,k,a=>by
   simp only[MH] at a;exact Bd9 (Rs.Dh (λ x b=>Ahg (Rs.Dh (λ y h2=>h2.2) (Rs.all_bind b))) (Rs.all_bind a))
theorem V7{ds}{h}{K:Av×Hp->Prop}(a:(MH h ds).all K):Lx h ds (λ x h=>K (x,h)):=Ahg (k:=λ x h=>K (x,h)) a
def Ag2(h:Hp)(d:D):Rs Ae:=
 match d with
 | .p (.sl b)=> .ret True b
 | .p (.str l)=> .ret True (Gz l)
 | .cl b=> .ret True b
 | .ref id off len N=>match get h id with
   | some (.arr _ _ a)=> .ret (N=a.length) ((a.drop off).take len)
   | some (.Om _ a)=> .ret (N=a.length) ((a.drop off).take len)
   | _=> .fail
 | _=> .fail
theorem Bcy{h}{d}{k:Ae->Prop}(a:(Ag2 h d).all k):Sh h d k:=by
 unfold Ag2 at a;unfold Sh;split at a
 . exact a.2
 . exact a.2
 . exact a.2
 . split at a
   . rename_i b;simp only[b];exact a
   . rename_i b;simp only[b];exact a
   . exact a.elim
 . exact a.elim
def Akg{α:Type}:Nat->Rs α->Rs α
 | 0,r=>r
 | _+1,_=> .fail
theorem VX{α:Type}{n}{r}{k:α->Prop}(h:(Akg n r).all k):n=0/\r.all k:=by
 cases n with
 | zero=>exact ⟨rfl,h⟩
 | succ n=>exact h.elim
theorem Ah9{α:Type}{n}{r}{k:α->Prop}(h0:n=0)(h:r.all k):(Akg n r).all k:=by
 subst h0;exact h
def VK(P:AK)(h:Hp)(q:Nat)(t t2:AG)(s x:D):Rs (D×Hp):=
 match Dz P t,Dz P t2 with
 | some ⟨_,_,.slice e,_⟩,some ti2=>match Dz P e with
   | some a=>(Ag2 h x).bind λ b=>match s with
     | .cl f=> .ret ((match ti2.k with | .slice _=>True | .string=>True | _=>False)/\P0 a.size b/\0<a.size/\a.zero.cells.length=a.size/\
           get h q=none/\(f=[]∨b≠[])/\P0 a.size f/\(f.length+b.length)*a.bytes<=140737488355328/\f.length+b.length<=140737488355328)
         (.ref q 0 (f++b).length (f++b).length,(q,.arr e a.size (f++b))::h)
     | .cz f=> .split b.isEmpty (.ret ((match ti2.k with | .slice _=>True | .string=>True | _=>False)/\P0 a.size b/\0<a.size/\a.zero.cells.length=a.size/\P0 a.size f) (.cz f,h))
         (.ret ((match ti2.k with | .slice _=>True | .string=>True | _=>False)/\P0 a.size b/\0<a.size/\a.zero.cells.length=a.size/\
           get h q=none/\P0 a.size f/\(f.length+b.length)*a.bytes<=140737488355328/\f.length+b.length<=140737488355328)
         (.ref q 0 (f++b).length (f++b).length,(q,.arr e a.size (f++b))::h))
     | .ref id off len N=>Akg off (match get h id with
       | some (.arr j g f)=> .ret ((match ti2.k with | .slice _=>True | .string=>True | _=>False)/\P0 a.size b/\0<a.size/\a.zero.cells.length=a.size/\
           off=0/\N=f.length/\len=f.length/\j=e/\g=a.size/\(f.length+b.length)*a.bytes<=140737488355328/\f.length+b.length<=140737488355328)
         (.ref id 0 (f++b).length (f++b).length,Dq h id (.arr e g (f++b)))
       | _=> .fail)
     | .nr id i len m=>match get h id with
       | some (.Fi n j g l rows none)=> .ret ((match ti2.k with | .slice _=>True | .string=>True | _=>False)/\P0 a.size b/\0<a.size/\a.zero.cells.length=a.size/\
           (j=e/\g=a.size/\m=l/\len=(rows.getD i []).length/\i<rows.length/\get h q=none)/\(len+b.length)*a.bytes<=140737488355328/\len+b.length<=140737488355328)
         (.ref q 0 (rows.getD i []++b).length (rows.getD i []++b).length,(q,.arr e g (rows.getD i []++b))::Dq h id (.Fi n j g (l+1) rows (some i)))
       | _=> .fail
     | _=> .fail
   | none=> .fail
 | _,_=> .fail
theorem Awr{h}{d}{k k':Ae->Prop}(b:∀x,k x->k' x)(a:Sh h d k):Sh h d k':=by
 unfold Sh at*;split at a
 . exact b _ a
 . exact b _ a
 . exact b _ a
 . split at a
   . exact ⟨a.1,b _ a.2⟩
   . exact ⟨a.1,b _ a.2⟩
   . exact a.elim
 . exact a.elim
theorem Bcz{h}{d}{q:Prop}{k:Ae->Prop}(a:Sh h d (λ b=>q/\k b)):q/\Sh h d k:=by
 unfold Sh at*;split at a
 . exact a
 . exact a
 . exact a
 . split at a
   . exact ⟨a.2.1,a.1,a.2.2⟩
   . exact ⟨a.2.1,a.1,a.2.2⟩
   . exact a.elim
 . exact a.elim
theorem Bbo{P}{h}{q}{t t2}{s x}{k:D->Hp->Prop}(m:(VK P h q t t2 s x).all (λ x=>k x.1 x.2)):Aaj P h q t t2 s x k:=by
 unfold VK at m;unfold Aaj;split at m
 case h_2=>exact m.elim
 rename_i w h2;simp only[w,h2];split at m
 case h_2=>exact m.elim
 rename_i y;simp only[y];refine Bcz (Awr (λ z a=>?_) (Bcy (Rs.all_bind m)));split at a
 . obtain ⟨⟨b,e,f,g,i,n,l,o,p⟩,j⟩:=a;exact ⟨b,e,f,g,i,n,l,o,p,j⟩
 . rename_i B;cases hb:z.isEmpty with
   | true=>
     obtain ⟨⟨b,e,f,g,i⟩,j⟩:=a.1 hb;refine ⟨b,e,f,g,?_⟩;simp only[hb,Bii];exact ⟨i,j⟩
   | false=>
     obtain ⟨⟨b,e,f,g,i,l,o,p⟩,j⟩:=a.2 hb;refine ⟨b,e,f,g,?_⟩;simp only[hb,Bbr];exact ⟨i,l,o,p,j⟩
 . have a:=(VX a).2;split at a
   . rename_i v;obtain ⟨⟨b,e,f,g,i,n,l,o,p,r,u⟩,j⟩:=a;simp only[v];exact ⟨b,e,f,g,i,n,l,o,p,r,u,j⟩
   . exact a.elim
 . split at a
   . rename_i v;obtain ⟨⟨b,e,f,g,i,n,l⟩,j⟩:=a;simp only[v];exact ⟨b,e,f,g,i,n,l,j⟩
   . exact a.elim
 . exact a.elim
def IQ(h:Hp)(id i n:Nat)(v:D):Rs Hp:=
 match v with
 | .ref q off len N=>match get h q,get h id with
   | some (.arr f ZW a),some (.Fi t e b g rows hole)=> .ret (off=0/\f=e/\ZW=b/\N=a.length/\len=N/\n=rows.length/\(hole=none∨hole=some i))
       (Dq (Dq h id (.Fi t e b (Bo9 hole g) (rows.set i a) none)) q (.Ik (Gm (.arr b (a.length+1)))))
   | _,_=> .fail
 | _=> .fail
theorem Ag6{h}{id i n}{v}{k:Hp->Prop}(a:(IQ h id i n v).all k):Tp h id i n v k:=by
 unfold IQ at a;unfold Tp;split at a
 . split at a
   . rename_i b h2;simp only[b,h2];exact a
   . exact a.elim
 . exact a.elim
def PG(P:AK)(h:Hp)(t:AG)(a v:D):Rs Hp:=
 match Dz P t with
 | some g=>match v.stored with
   | some cs=>match a with
     | .ptr id off=>match get h id with
       | some (.box b k)=> .ret (cs.length=g.size/\off+cs.length<=b.length) (Dq h id (.box (b.take off++cs++b.drop (off+cs.length)) (Qp k (b.take off++cs++b.drop (off+cs.length)))))
       | _=> .fail
     | .ea id i c N=>(MH h cs).bind λ y=>match get y.2 id with
       | some (.arr e j f)=> .ret (cs.length=g.size/\N=f.length/\c+y.1.length<=j) (Dq y.2 id (.arr e j (f.set i ((f.getD i []).take c++y.1++(f.getD i []).drop (c+y.1.length)))))
       | _=> .fail
     | .Sn id i n=>(IQ h id i n v).and (cs.length=g.size)
     | _=> .fail
   | none=> .fail
 | none=> .fail
theorem KF:∀{ds:Ah} {h:Hp} {q:Prop} {k:Av->Hp->Prop},Lx h ds (λ x h=>q/\k x h)->q/\Lx h ds k
 | [],h,q,k,e=>e
 | d::r,h,q,k,e=>by
   have a:PH h d (λ x f=>q/\Lx f r λ i b=>k (x::i) b):=Ahi (λ x f h2=>KF h2) e;simp only[Lx];unfold PH at a ⊢;cases d with
   | p x=>exact a
   | cl g=>exact a
   | cz g=>exact a
   | ref id off len N=>
     simp only at a ⊢;split at a
     . rename_i h2;exact ⟨a.2.1,a.1,a.2.2⟩
     . rename_i h2;exact ⟨a.2.1,a.1,a.2.2⟩
     . exact a.elim
   | E8 id n=>
     simp only at a ⊢;split at a
     . rename_i h2;exact ⟨a.2.1,a.1,a.2.2⟩
     . exact a.elim
   | _=>exact a.elim
theorem As4{P}{h}{t}{a v}{k:Hp->Prop}(b:(PG P h t a v).all k):Ac7 P h t a v k:=by
 unfold PG at b;unfold Ac7;split at b
 case h_2=>exact b.elim
 rename_i f;simp only[f];split at b
 case h_2=>exact b.elim
 rename_i h2;simp only[h2];split at b
 . split at b
   . rename_i e;simp only[e];exact ⟨b.1.1,b.1.2,b.2⟩
   . exact b.elim
 . refine KF (Rn (λ x g hx=>?_) (V7 (Rs.all_bind b)));simp only at hx;split at hx
   . rename_i e;simp only[e];exact ⟨hx.1.1,hx.1.2.1,hx.1.2.2,hx.2⟩
   . exact hx.elim
 . exact ⟨(Rs.GH b).1,Ag6 (Rs.GH b).2⟩
 . exact b.elim
def TK.Bog:TK->Bool
 | .slice _=>true
 | _=>false
def D.Bds:D->Bool
 | .cl []=>true
 | _=>false
def TK.Bdt:TK->Bool
 | .slice e=>!Blw e
 | _=>false
def Aku(a:TI)(cs:Ah):Bool:=a.k.Bdt&&(!cs.isEmpty&&cs.all D.Bds)
def MN(P:AK)(st:St)(q:Nat)(f:Op):Rs (D×Hp):=
 match f with
 | .alloc t=>match Dz P t with
   | some b=>match b.zero.stored with
     | some cs=> .ret (get st.hp q=none) (.ptr q 0,(q,.box cs (npT t cs))::st.hp)
     | none=> .fail
   | none=> .fail
 | .box _ x=>match (ev st x).stored with
   | some cs=> .ret (get st.hp q=none) (.ptr q 0,(q,.box cs)::st.hp)
   | none=> .fail
 | .store t a x=>(PG P st.hp t (ev st a) (ev st x)).bind λ h=> .ret True (.Em [],h)
 | .makeMap _ none=> .ret (get st.hp q=none) (.mv q,(q,.mp [])::st.hp)
 | .mapUpdate t m i x=>(Wd P st.hp t (ev st m) (ev st i) (ev st x)).bind λ h=> .ret True (.Em [],h)
 | .buildSlice t n parts=>match Dz P t with
   | some ⟨_,_,.slice e,_⟩=>match Dz P e with
     | some b=>match J5 (λ i=>some (i*b.size,b.size)) (List.replicate (n*b.size) .bad) (parts.toList.map λ q=>(q.1,ev st q.2)) with
       | some cs=>if Aku b cs=true then .fail else (MH st.hp cs).bind λ y=> .ret (0<b.size/\n*b.size<=16777216/\get y.2 q=none) (.ref q 0 n n,(q,.arr e b.size (chunk b.size n y.1))::y.2)
       | none=> .fail
     | none=> .fail
   | _=> .fail
 | .makeSlice t l m=>match Dz P t,ev st l,ev st m with
   | some ⟨_,_,.slice e,_⟩,.p (.int _ l),.p (.int _ m)=>match Dz P e with
     | some b=>if (b.k.Bog&&!Adf t)=true then .fail else (MH [] b.zero.cells).bind λ y=> .ret (0<b.size/\get st.hp q=none/\(0<=l/\l<=m/\m*b.bytes<=140737488355328/\m<=140737488355328)/\b.zero.cells.length=b.size)
         (.ref q 0 l.toNat l.toNat,(q,.arr e b.size (List.replicate l.toNat y.1))::st.hp)
     | none=> .fail
   | _,_,_=> .fail
 | _=> .fail
theorem Ax7{P}{st}{q}{o}{k:D->Hp->Prop}(a:(MN P st q o).all (λ x=>k x.1 x.2)):Ax8 P st q o k:=by
 unfold MN at a;unfold Ax8;split at a
 . split at a
   . rename_i e;simp only[e];split at a
     . rename_i h2;simp only[h2];exact a
     . exact a.elim
   . exact a.elim
 . split at a
   . rename_i h2;simp only[h2];exact a
   . exact a.elim
 . exact As4 (Rs.Dh (λ h hx=>hx.2) (Rs.all_bind a))
 . exact a
 . exact Asq (Rs.Dh (λ h hx=>hx.2) (Rs.all_bind a))
 . split at a
   . rename_i e;simp only[e];split at a
     . rename_i h2;simp only[h2];split at a
       . rename_i i;simp only[i];split at a
         . exact a.elim
         have j:=Rn (k':=λ y h=>_/\_/\get h q=none/\k _ _) (λ y h b=>⟨b.1.1,b.1.2.1,b.1.2.2,b.2⟩) (V7 (Rs.all_bind a));have g:=KF j;have f:=KF g.2;exact ⟨g.1,f.1,f.2⟩
       . exact a.elim
     . exact a.elim
   . exact a.elim
 . split at a
   . rename_i e h2 i;simp only[e,h2,i];split at a
     . rename_i j;simp only[j];split at a
       . exact a.elim
       have g:=Rn (k':=λ y h=>_/\_/\_/\_/\k _ _) (λ y h b=>⟨b.1.1,b.1.2.1,b.1.2.2.1,b.1.2.2.2,b.2⟩) (V7 (Rs.all_bind a));have f:=KF g;have l:=KF f.2;have m:=KF l.2;have n:=KF m.2;exact ⟨f.1,l.1,m.1,n.1,n.2⟩
     . exact a.elim
   . exact a.elim
 . exact a.elim
def Ahx(P:AK)(h:Hp)(q:Nat)(t:AG)(d:D):Rs (D×Hp):=
 match Dz P t with
 | some ⟨_,_,.slice e,_⟩=>match Dz P e with
   | some ⟨1,_,.slice _,.cl []⟩=> .ret (get h q=none) (.ref q 0 1 1,(q,.YH e 1 [[.sl []]] 0 0 d)::h)
   | _=> .fail
 | _=> .fail
theorem Axc{P}{h}{q}{t}{d}{k:D->Hp->Prop}(a:(Ahx P h q t d).all (λ x=>k x.1 x.2)):Avb P h q t d k:=by
 unfold Ahx at a;unfold Avb;split at a
 case h_2=>exact a.elim
 rename_i b;simp only[b];split at a
 case h_2=>exact a.elim
 rename_i h2;simp only[h2];exact a
def Rv(P:AK)(st:St)(q:Nat)(a:Op):Rs (D×Hp):=
 match FT st a with
 | some (t,d)=>Ahx P st.hp q t d
 | none=>MN P st q a
theorem MM{P}{st}{q}{e}{k:D->Hp->Prop}(a:(Rv P st q e).all (λ x=>k x.1 x.2)):mOp P st q e k:=by
 unfold Rv at a;unfold mOp;split at a
 . rename_i t d b;simp only[b];exact Axc a
 . rename_i b;simp only[b];exact Ax7 a
def Aff(h:Hp)(d:D):Rs (D×Hp):=
 match d with
 | .ref id off len N=>match get h id with
   | some (.arr _ _ a)=> .ret (N=a.length) (.p (.sl ((a.drop off).take len)),froze h id)
   | some (.Om _ a)=> .ret (N=a.length) (.p (.sl ((a.drop off).take len)),h)
   | _=> .fail
 | .E8 id n=>match get h id with
   | some (.Fi _ _ e b rows none)=> .ret (n=rows.length) (.p (.sl (rows.map λ r=>[.sl r])),Dq h id (.Ik (Gm (.Fi e rows.length b))))
   | _=> .fail
 | .cl a=> .ret True (.p (.sl a),h)
 | d=> .ret True (d,h)
theorem Hs{h}{d}{k:D->Hp->Prop}(a:(Aff h d).all (λ x=>k x.1 x.2)):bor h d k:=by
 cases d with
 | ref id off len N=>
   simp only[Aff] at a;simp only[bor];split at a
   . exact a
   . exact a
   . exact a.elim
 | E8 id n=>
   simp only[Aff] at a;simp only[bor];split at a
   . exact a
   . exact a.elim
 | cl b=>exact a.2
 | _=>exact a.2
mutual
def Er (h:Hp) (d:D):Rs (D×Hp):=
  match d with
  | .agg cs=>(JS h cs).bind λ x=> .ret True (.agg x.1,x.2)
  | .Em cs=>(JS h cs).bind λ x=> .ret True (.Em x.1,x.2)
  | d=>Aff h d
def JS:Hp->Ah->Rs (Ah×Hp)
  | h,[]=> .ret True ([],h)
  | h,d::r=>(Er h d).bind λ x=>(JS x.2 r).bind λ y=> .ret True (x.1::y.1,y.2)
end
mutual
theorem ZA:∀{d:D} {h:Hp} {k:D->Hp->Prop},(Er h d).all (λ x=>k x.1 x.2)->HM h d k
  | .agg cs,h,k,hh=>by simp only[Er] at hh;simp only[HM];exact RM (Rs.Dh (λ x hx=>hx.2) (Rs.all_bind hh))
  | .Em cs,h,k,hh=>by simp only[Er] at hh;simp only[HM];exact RM (Rs.Dh (λ x hx=>hx.2) (Rs.all_bind hh))
  | .p _,h,k,hh=>by simp only[Er] at hh;simp only[HM];exact Hs hh
  | .cl _,h,k,hh=>by simp only[Er] at hh;simp only[HM];exact Hs hh
  | .cz _,h,k,hh=>by simp only[Er] at hh;simp only[HM];exact Hs hh
  | .ref _ _ _ _,h,k,hh=>by simp only[Er] at hh;simp only[HM];exact Hs hh
  | .ptr _ _,h,k,hh=>by simp only[Er] at hh;simp only[HM];exact Hs hh
  | .pe _,h,k,hh=>by simp only[Er] at hh;simp only[HM];exact Hs hh
  | .ea _ _ _ _,h,k,hh=>by simp only[Er] at hh;simp only[HM];exact Hs hh
  | .fn _ _,h,k,hh=>by simp only[Er] at hh;simp only[HM];exact Hs hh
  | .np,h,k,hh=>by simp only[Er] at hh;simp only[HM];exact Hs hh
  | .mv _,h,k,hh=>by simp only[Er] at hh;simp only[HM];exact Hs hh
  | .E8 _ _,h,k,hh=>by simp only[Er] at hh;simp only[HM];exact Hs hh
  | .Sn _ _ _,h,k,hh=>by simp only[Er] at hh;simp only[HM];exact Hs hh
  | .nr _ _ _ _,h,k,hh=>by simp only[Er] at hh;simp only[HM];exact Hs hh
  | .WX,h,k,hh=>by simp only[Er] at hh;simp only[HM];exact Hs hh
  | .bad,h,k,hh=>by simp only[Er] at hh;simp only[HM];exact Hs hh
theorem RM:∀{ds:Ah} {h:Hp} {k:Ah->Hp->Prop},(JS h ds).all (λ x=>k x.1 x.2)->Ys h ds k
  | [],h,k,hh=>by simp only[JS] at hh;simp only[Ys];exact hh.2
  | d::r,h,k,hh=>by
    simp only[JS] at hh;simp only[Ys];exact ZA (Rs.Dh (λ x h1=>RM (Rs.Dh (λ y h2=>h2.2) (Rs.all_bind h1))) (Rs.all_bind hh))
end
def Asu(P:AK)(h:Hp)(t:AG)(x:D):Rs D:=
 match Dz P t with
 | some b=>match b.k,x with
   | .string,.p (.str l)=> .ret True (.p (.int .i64 l.length))
   | .slice _,.p (.sl a)=> .ret True (.p (.int .i64 a.length))
   | .slice _,.cl a=> .ret True (.p (.int .i64 a.length))
   | .slice _,.ref id _ len N=> .ret (Au3 h id N) (.p (.int .i64 len))
   | .slice _,.E8 _ n=> .ret True (.p (.int .i64 n))
   | .slice _,.nr _ _ len _=> .ret True (.p (.int .i64 len))
   | .array n _,_=> .ret True (.p (.int .i64 n))
   | _,_=> .fail
 | none=> .fail
theorem Ao9{P}{h}{t}{x}{k:D->Prop}(a:(Asu P h t x).all k):Bdn P h t x k:=by
 unfold Asu at a;unfold Bdn;split at a
 case h_2=>exact a.elim
 try simp only[*]
 split at a
 . first | exact a.2 | (simp only[*];exact a.2)
 . first | exact a.2 | (simp only[*];exact a.2)
 . first | exact a.2 | (simp only[*];exact a.2)
 . first | exact a | (simp only[*];exact a)
 . first | exact a.2 | (simp only[*];exact a.2)
 . first | exact a.2 | (simp only[*];exact a.2)
 . first | exact a.2 | (simp only[*];exact a.2)
 . exact a.elim
def VL(P:AK)(h:Hp)(t t2:AG)(id N:Nat)(x:D):Rs (D×Hp):=
 match Dz P t,Dz P t2,x with
 | some ⟨_,_,.slice e,_⟩,some ⟨_,_,.slice _,_⟩,.ref o 0 1 1=>match Dz P e,get h o with
   | some ⟨1,j,.slice _,.cl []⟩,some (.YH _ 1 [_] 0 0 (.ref i 0 n m))=>match get h i,get h id with
     | some (.arr g f a),some (.Fi k b Vs l rows none)=> .ret ((k=e/\b=g/\Vs=f)/\n=a.length/\m=a.length/\N=rows.length/\N+1<=140737488355328/\(N+1)*j<=140737488355328)
         (.E8 id (N+1),Dq (Dq h id (.Fi e g f (l+2) (rows++[a]) none)) i (.Ik (Gm (.arr f (a.length+1)))))
     | _,_=> .fail
   | _,_=> .fail
 | _,_,_=> .fail
theorem Bbp{P}{h}{t t2}{id N}{x}{k:D->Hp->Prop}(a:(VL P h t t2 id N x).all (λ x=>k x.1 x.2)):Bia P h t t2 id N x k:=by
 unfold VL at a;unfold Bia;split at a
 case h_2=>exact a.elim
 rename_i b h2;simp only[b,h2];split at a
 case h_2=>exact a.elim
 rename_i e f;simp only[e,f];split at a
 case h_2=>exact a.elim
 rename_i g i;simp only[g,i];exact a
def Afh(P:AK)(h:Hp)(q:Nat)(t t2:AG)(s x:D):Rs (D×Hp):=
 match s with
 | .E8 id N=>VL P h t t2 id N x
 | s=>VK P h q t t2 s x
theorem Ar2{P}{h}{q}{t t2}{s x}{k:D->Hp->Prop}(a:(Afh P h q t t2 s x).all (λ x=>k x.1 x.2)):Bib P h q t t2 s x k:=by
 cases s<;>simp only[Afh] at a<;>simp only[Bib]<;>first | exact Bbp a | exact Bbo a
def Aae(P:AK)(h:Hp)(t:AG)(s x:D):Rs (D×Hp):= .fail
theorem Aje{P}{h}{t}{s x}{k:D->Hp->Prop}(a:(Aae P h t s x).all (λ x=>k x.1 x.2)):Bho P h t s x k:=False.elim a
def Ie(P:AK)(st:St)(q:Nat)(b:Builtin)(f:Array TypeId)(args:Ah):Rs (D×Hp):=
 match b,args with
 | .len,[x]=>match f[0]? with
   | some t=>(Asu P st.hp t x).bind λ d=> .ret True (d,st.hp)
   | none=> .fail
 | .append,[s,x]=>match f[0]?,f[1]? with
   | some t,some i=>Afh P st.hp q t i s x
   | _,_=> .fail
 | .copy,[s,x]=>match f[0]?,f[1]? with
   | some t,some _=>Aae P st.hp t s x
   | _,_=> .fail
 | .min,[.p (.int a x),.p (.int e y)]=> .ret (a=e) (.p (.int a (if y<x then y else x)),st.hp)
 | .max,[.p (.int a x),.p (.int e y)]=> .ret (a=e) (.p (.int a (if x<y then y else x)),st.hp)
 | .min,[.p (.int a x),.p (.int e y),.p (.int g z)]=> .ret (a=e/\e=g) (.p (.int a (if z<(if y<x then y else x) then z else (if y<x then y else x))),st.hp)
 | _,_=> .fail
theorem RJ{P}{st}{q}{b}{e}{args}{k:D->Hp->Prop}(a:(Ie P st q b e args).all (λ x=>k x.1 x.2)):
   T7 P st q b e args k:=by
 unfold Ie at a;unfold T7;split at a
 . split at a
   . first | exact Ao9 (Rs.Dh (λ x hx=>hx.2) (Rs.all_bind a)) | (simp only[*];exact Ao9 (Rs.Dh (λ x hx=>hx.2) (Rs.all_bind a)))
   . exact a.elim
 . split at a
   . first | exact Ar2 a | (simp only[*];exact Ar2 a)
   . exact a.elim
 . split at a
   . first | exact Aje a | (simp only[*];exact Aje a)
   . exact a.elim
 . exact a
 . exact a
 . exact a
 . exact a.elim
end Go.Am
namespace Go.Am
open Go
mutual
def D.GB (ρ:Nat->Option Nat):D->D
  | .p x=> .p x
  | .agg cs=> .agg (Nd ρ cs)
  | .Em cs=> .Em (Nd ρ cs)
  | .cl es=> .cl es
  | .cz es=> .cz es
  | .ref id off len N=>match ρ id with | some j=> .ref j off len N | none=> .bad
  | .ptr id off=>match ρ id with | some j=> .ptr j off | none=> .bad
  | .pe cs=> .pe cs
  | .ea id i c N=>match ρ id with | some j=> .ea j i c N | none=> .bad
  | .fn f cap=> .fn f (Nd ρ cap)
  | .np=> .np
  | .mv id=>match ρ id with | some j=> .mv j | none=> .bad
  | .E8 id n=>match ρ id with | some j=> .E8 j n | none=> .bad
  | .Sn id i n=>match ρ id with | some j=> .Sn j i n | none=> .bad
  | .nr id i len k=>match ρ id with | some j=> .nr j i len k | none=> .bad
  | .WX=> .WX
  | .bad=> .bad
def Nd (ρ:Nat->Option Nat):Ah->Ah
  | []=>[]
  | d::r=>D.GB ρ d::Nd ρ r
end
def AO.GB(ρ:Nat->Option Nat):AO->AO
 | .box cs t=> .box (Nd ρ cs) t
 | .YH t b a i c d=> .YH t b a i c (d.GB ρ)
 | o=>o
abbrev Aq:=List Nat
mutual
def D.ids:D->Aq
  | .ref id _ _ _ | .ptr id _ | .ea id _ _ _ | .mv id | .E8 id _ | .Sn id _ _ | .nr id _ _ _=>[id]
  | .agg cs | .Em cs | .fn _ cs=>Fe cs
  | _=>[]
def Fe:Ah->Aq
  | []=>[]
  | d::r=>D.ids d++Fe r
end
def Ii(T:Aq):Aq->Aq
 | []=>T
 | i::r=>if i∈T then Ii T r else Ii (T++[i]) r
def AO.ids:AO->Aq
 | .box cs _=>Fe cs
 | .YH _ _ _ _ _ d=>d.ids
 | _=>[]
def MQ(h:Hp):Aq->Aq
 | []=>[]
 | i::r=>(match get h i with | some o=>o.ids | none=>[])++MQ h r
def ghost(h:Hp)(id:Nat):Aq:=match get h id with
 | some (.Ew _ _)=>[id]
 | _=>[]
def Wo(h:Hp):Aq:=ghost h base++(ghost h (base+1)++(ghost h (base+2)++ghost h (base+3)))
def F3(h:Hp)(ids:Aq):Aq:=
 let a:=Ii [] ids
 let b:=Ii a (MQ h a)
 Ii (Ii b (MQ h b)) (Wo h)
def idx:Aq->Nat->Nat->Option Nat
 | [],_,_=>none
 | x::r,k,id=>if x=id then some k else idx r (k+1) id
def sub(h:Hp)(ρ:Nat->Option Nat):Nat->Aq->Hp
 | _,[]=>[]
 | k,id::r=>match get h id with
   | some o=>(k,o.GB ρ)::sub h ρ (k+1) r
   | none=>sub h ρ (k+1) r
def back(T:Aq)(q j:Nat):Option Nat:=if base<=j then T[j - base]? else some (10000*(j+1)+q)
def merge(T:Aq)(q:Nat)(h:Hp):Hp->Hp
 | []=>h
 | (j,o)::r=>match back T q j with
   | some id=>Dq (merge T q h r) id (o.GB (back T q))
   | none=>merge T q h r
def fresh(q:Nat)(h:Hp):Hp->Prop
 | []=>True
 | (j,_)::r=>(base<=j∨get h (10000*(j+1)+q)=none)/\fresh q h r
def Enters(P:AK)(f:AH):Prop:=∀args w,(callFunc f args).run P w= .ok (.enter f args) w
def Bil(P:AK)(f:AH)(vs:Array Value)(w:AI)(Bub:Ending->World->Prop):Prop:=
 ((callFunc f vs).run P w= .ok (.enter f vs) w/\Calls P f vs w Bub)∨∃v a,(callFunc f vs).run P w= .ok (.value v) a/\Bub (.returned v) a
theorem Bil.mono{P}{f}{vs}{w}{Q Q':Ending->World->Prop}(h:Bil P f vs w Q)(b:∀e w',Q e w'->Q' e w'):Bil P f vs w Q':=by
 rcases h with ⟨a,h2⟩ | ⟨v,w',a,h2⟩
 . exact .inl ⟨a,h2.mono b⟩
 . exact .inr ⟨v,w',a,b _ _ h2⟩
def C4(P:AK)(f:AH)(args:Ah)(h:Hp)(R:Hp->D->Prop):Prop:=
 ∀(i:Array Value) (w:AI) (F:Nat->Prop) (M:Nat->Mb),HR F w M h->(∀b,F b->b<w.heap.size)->(∀id,sg h id≠none->base<=id)->Np F w M (sg h) args i.toList->
   Bil P f i w λ e g=>∃v a r F' M',e= .returned v/\R a r/\HR F' g M' a/\DR F' g M' (sg a) r v/\Aup ⟨w,F,Ht M h,M,sg h⟩ g F' M' a
theorem C4.mono{P}{f}{args}{h}{R R':Hp->D->Prop}(j:C4 P f args h R)(hR:∀h' r,R h' r->R' h' r):C4 P f args h R':=
 λ k w F M a h2 LC b=>(j k w F M a h2 LC b).mono λ _ _ ⟨v,h',r,F',M',e,g,i⟩=>⟨v,h',r,F',M',e,hR _ _ g,i⟩
theorem Afp{P}{f}{e:Array Value->Sem Value}{args}{h}{R:Hp->D->Prop}(EY:∀args w,(callFunc f args).run P w=((e args).run P w).andThen λ v w'=> .ok (.value v) w')
   (i:∀(vs:Array Value) w F M,Np F w M (sg h) args vs.toList->∃v r,(e vs).run P w= .ok v w/\DR F w M (sg h) r v/\R h r):C4 P f args h R:=by
 intro vs w F M Qv Uw XH g;obtain ⟨v,r,a,h2,b⟩:=i vs w F M g;refine .inr ⟨v,w,?_,v,h,r,F,M,rfl,b,Qv,h2,⟨rfl,rfl,rfl,Bk _,λ _ _ _=>rfl,λ _ h=>h,λ _ h=> .inl h,Uw,λ _ h=> .inl h,Eb.refl _ _,XH⟩⟩;rw[EY,a];rfl
def LD(P:AK)(h:Hp)(f:AH)(ds:Ah)(q:Nat)(k:D->Hp->Prop):Prop:=
 let T:=F3 h (Fe ds)
 T.Nodup/\(T.all λ id=>(get h id).isSome)=true/\
 C4 P f (Nd (idx T base) ds) (sub h (idx T base) base T) λ a r=>fresh q h a/\k (r.GB (back T q)) (merge T q h a)
def Pt(P:AK)(st:St)(o:Oper):Rs (D×Hp):=
 match o.op with
 | .call c=>match c.callee with
   | .builtin b=>Ie P st (o.dst.getD 0) b c.argTypes (c.args.toList.map (ev st))
   | _=> .fail
 | .alloc _ | .box _ _ | .store _ _ _ | .buildSlice _ _ _ | .makeSlice _ _ _ | .makeMap _ _ | .mapUpdate _ _ _ _=>Rv P st (o.dst.getD 0) o.op
 | op=>(NQ P st op).bind λ d=> .ret True (d,st.hp)
abbrev AD:=List Operand
def KL(st:St)(f:AM)(args:AD):Rs (FuncId×Ah×Hp):=
 match ev st f with
 | .fn g cap=>(JS st.hp (args.map (ev st)++cap)).bind λ x=> .ret True (g,x.1,x.2)
 | _=> .fail
def EB(o:Op):Option (Operand×AD):=
 match o with
 | .call c=>match c.callee with
   | .value f=>some (f,c.args.toList)
   | _=>none
 | _=>none
def Good(c:Ctx)(K:St->Prop):Act->World->Prop:=λ a w=>∃b F M,K b/\Rel c b a w F M
def VN(P:AK)(o:Oper)(K:St->Prop)(st:St):Prop:=
 ∀c a w F M (Q:Exit->Act->World->Prop),Rel c st a w F M->o.wp P a w (Good c K) Q
def RI(S:Prop)(P:AK)(h:Hp)(f:AH)(ds:Ah)(q:Nat)(k:D->Hp->Prop):Prop:=
 let T:=F3 h (Fe ds)
 T.Nodup/\(T.all λ id=>(get h id).isSome)=true/\
 (C4 P f (Nd (idx T base) ds) (sub h (idx T base) base T) (λ a r=>fresh q h a/\k (r.GB (back T q)) (merge T q h a))∨S)
theorem Zz{S:Prop}{P}{h}{f}{ds}{q}{k:D->Hp->Prop}(e:RI S P h f ds q k):LD P h f ds q k∨S:=by
 obtain ⟨b,h2,a⟩:=e;rcases a with a | a
 . exact .inl ⟨b,h2,a⟩
 . exact .inr a
theorem Ajh{S:Prop}{P}{h}{f}{ds}{q}{k:D->Hp->Prop}(a:LD P h f ds q k):RI S P h f ds q k:=⟨a.1,a.2.1,.inl a.2.2⟩
theorem RH{X:Prop}{P}{h}{f}{ds}{q}{k:D->Hp->Prop}:RI (false=true/\X) P h f ds q k=LD P h f ds q k:=
 propext ⟨λ a=>(Zz a).elim id λ h=>(BU h.1).elim,Ajh⟩
def YN(P:AK)(s:Bool)(o:Oper)(K:St->Prop)(st:St):Prop:=
 match EB o.op with
 | some (f,args)=>(KL st f args).OM (s=true/\VN P o K st) λ x=>RI (s=true/\VN P o K st) P x.2.2 x.1 x.2.1 (o.dst.getD 0) λ d a=>K (({st with hp:=a}:St).put o.dst d)
 | none=>(Pt P st o).OM (s=true/\VN P o K st) λ x=>K (({st with hp:=x.2}:St).put o.dst x.1)
abbrev As:=List Oper
def IV(st:St)(ops:As)(g:Option (Nat×Bool))(yes no:Prop):Prop:=
 match g with
 | none=>yes
 | some (j,want)=>match ((ops[j]?).bind (·.dst)).bind (get st.env) with
   | some (.p (.bool b))=>WIf (b==want) yes no
   | some (.Em [])=>no
   | _=>False
def Afu(P:AK)(s:Bool)(ops:As):As->(St->Prop)->St->Prop
 | [],K,a=>K a
 | o::rest,K,a=>IV a ops o.guard (YN P s o (Afu P s ops rest K) a) (Afu P s ops rest K (a.put o.dst (.Em [])))
def thn(K:St->Prop)(Q:Exit->St->Prop):Exit->St->Prop
 | .normal,a=>K a
 | e,a=>Q e a
def Fu(id:Nat)(Q:Exit->St->Prop):Exit->St->Prop
 | .exit WO,a=>if WO=id then Q .normal a else Q (.exit WO) a
 | e,a=>Q e a
def Wk(st Lt:St):Prop:=∀c a w F M,Rel c st a w F M->∃F' M',Rel c Lt a w F' M'
def Amn(body:(Exit->St->Prop)->St->Prop)(Q:Exit->St->Prop):Nat->St->Prop
 | 0,_=>False
 | n+1,a=>∃Lt,Wk a Lt/\body (thn (Amn body Q n) Q) Lt
def QC(c:Ctx)(Q:Exit->St->Prop):Exit->Act->World->Prop:=λ e a w=>∃b F M,Q e b/\Rel c b a w F M
def Bq3(P:AK)(x:Code)(Q:Exit->St->Prop)(st:St):Prop:=
 ∀c a w F M,Rel c st a w F M->(Code.scope x).wp P (QC c Q) a w
def Buj(P:AK)(id:Nat)(ops:Array Oper)(Q:Exit->St->Prop)(st:St):Prop:=
 ∀c a w F M,Rel c st a w F M->(Code.region id ops true).wp P (QC c Q) a w
def wA(P:AK):Code->(Exit->St->Prop)->St->Prop
 | .skip,Q,a=>Q .normal a
 | .label _,Q,a=>Q .normal a
 | .ret,Q,a=>Q .ret a
 | .exit id,Q,a=>Q (.exit id) a
 | .goto l,Q,a=>Q (.goto l) a
 | .seq x y,Q,a=>wA P x (thn (wA P y Q) Q) a
 | .cond c x y,Q,a=>match ev a c with
   | .p (.bool b)=>WIf b (wA P x Q a) (wA P y Q a)
   | _=>False
 | .block id x,Q,a=>wA P x (Fu id Q) a
 | .loop x,Q,a=>∃n,Amn (wA P x) Q n a
 | .scope x,Q,a=>Bq3 P x Q a
 | .region id ops draw,Q,a=>(draw=false/\Afu P true ops.toList ops.toList (Q .normal) a)∨(draw=true/\Buj P id ops Q a)
 | _,_,_=>False
end Go.Am
namespace Go.Am
open Go
section
variable {P:AK} {c:Ctx} {st:St} {a:Act} {w:AI} {F:Nat->Prop} {M:Nat->Mb}
theorem Ob(ρ:Nat->Option Nat):∀(cs:Ah) (i:Nat),(Nd ρ cs)[i]?=(cs[i]?).map (D.GB ρ)
 | [],i=>by simp[Nd]
 | d::r,0=>by simp[Nd]
 | d::r,i+1=>by simp[Nd,Ob ρ r i]
theorem KE(ρ:Nat->Option Nat):∀cs:Ah,(Nd ρ cs).length=cs.length
 | []=>rfl
 | d::r=>by simp[Nd,KE ρ r]
theorem DR.GB{ρ:Nat->Option Nat}{M':Nat->Mb}{s T:Nat->Option Sg}{d:D}{v:AJ}(h:DR F w M s d v)
   (H:∀id j,ρ id=some j->s id≠none->M' j=M id/\T j=s id):DR F w M' T (d.GB ρ) v:=by
 induction h with
 | p h=>simp only[D.GB];exact .p h
 | agg cs Q I _ K=>
   simp only[D.GB];refine .agg _ Q (by rw[KE];exact I) λ i e g=>?_;rw[Ob] at g;cases x:cs[i]? with
   | none=>rw[x] at g;cases g
   | some q=>rw[x] at g;cases g;exact K i q x
 | Em cs Q I _ K=>
   simp only[D.GB];refine .Em _ Q (by rw[KE];exact I) λ i e g=>?_;rw[Ob] at g;cases x:cs[i]? with
   | none=>rw[x] at g;cases g
   | some q=>rw[x] at g;cases g;exact K i q x
 | cl R a h Y=>simp only[D.GB];exact .cl R a h Y
 | cz R a h=>simp only[D.GB];exact .cz R a h
 | ref id off len N z n v B y E h2=>
   simp only[D.GB];cases r:ρ id with
   | none=>exact .bad _
   | some j=>
     obtain ⟨l,o⟩:=H id j r (by rw[B];simp);exact .ref j off len N z n v (by rw[o,B]) y E (λ e=>by rw[l];exact h2 e)
 | ptr id off B=>
   simp only[D.GB];cases r:ρ id with
   | none=>exact .bad _
   | some j=>
     obtain ⟨l,o⟩:=H id j r (by rw[B];simp);have:=DR.ptr (F:=F) (w:=w) (M:=M') (s:=T) j off (by rw[o,B]);rwa[l] at this
 | pe cs b off row t U V W S Z=>simp only[D.GB];exact .pe cs b off row t U V W S Z
 | ea id i q N z n v B y E h2=>
   simp only[D.GB];cases r:ρ id with
   | none=>exact .bad _
   | some j=>
     obtain ⟨l,o⟩:=H id j r (by rw[B];simp);exact .ea j i q N z n v (by rw[o,B]) y E (λ e=>by rw[l];exact h2 e)
 | fn f cap Q I _ K=>
   simp only[D.GB];refine .fn f _ Q (by rw[KE];exact I) λ i e g=>?_;rw[Ob] at g;cases x:cap[i]? with
   | none=>rw[x] at g;cases g
   | some q=>rw[x] at g;cases g;exact K i q x
 | np=>simp only[D.GB];exact .np
 | mv id u=>
   simp only[D.GB];cases r:ρ id with
   | none=>exact .bad _
   | some j=>
     obtain ⟨l,o⟩:=H id j r (by rw[u];simp);rw[<-l];exact .mv j (by rw[o,u])
 | E8 id n z m k v u y E h2=>
   simp only[D.GB];cases r:ρ id with
   | none=>exact .bad _
   | some j=>
     obtain ⟨l,o⟩:=H id j r (by rw[u];simp);exact .E8 j n z m k v (by rw[o,u]) y E (λ e=>by rw[l];exact h2 e)
 | Sn id i n z m k b u y S h2=>
   simp only[D.GB];cases r:ρ id with
   | none=>exact .bad _
   | some j=>
     obtain ⟨l,o⟩:=H id j r (by rw[u];simp);exact .Sn j i n z m k b (by rw[o,u]) y S (λ e=>by rw[l];exact h2 e)
 | nr id i len q z m k v u y E h2=>
   simp only[D.GB];cases r:ρ id with
   | none=>exact .bad _
   | some j=>
     obtain ⟨l,o⟩:=H id j r (by rw[u];simp);exact .nr j i len q z m k v (by rw[o,u]) y E (λ e=>by rw[l];exact h2 e)
 | WX v h=>simp only[D.GB];exact .WX v h
 | bad v=>simp only[D.GB];exact .bad v
theorem Np.GB{ρ:Nat->Option Nat}{M':Nat->Mb}{s f:Nat->Option Sg}{ds:Ah}{vs:At}(h:Np F w M s ds vs)
   (g:∀id j,ρ id=some j->s id≠none->M' j=M id/\f j=s id):Np F w M' f (Nd ρ ds) vs:=
 ⟨by rw[KE];exact h.1,λ i d b=>by
   rw[Ob] at b;cases e:ds[i]? with
   | none=>rw[e] at b;cases b
   | some q=>rw[e] at b;cases b;exact (h.2 i q e).GB g⟩
theorem AO.Asg(ρ:Nat->Option Nat)(o:AO):(o.GB ρ).sg=o.sg:=by cases o<;>rfl
theorem AO.J3(ρ:Nat->Option Nat)(o:AO)(m:Mb)(b:Nat):(o.GB ρ).JO m b↔o.JO m b:=by cases o<;>exact Iff.rfl
theorem Bo6(ρ:Nat->Option Nat)(d:D):(d.GB ρ).Ag8=d.Ag8:=by
 cases d with
 | ref id off len N=>simp only[D.GB];cases ρ id<;>rfl
 | ptr id off=>simp only[D.GB];cases ρ id<;>rfl
 | ea id i c N=>simp only[D.GB];cases ρ id<;>rfl
 | mv id=>simp only[D.GB];cases ρ id<;>rfl
 | E8 id n=>simp only[D.GB];cases ρ id<;>rfl
 | Sn id i n=>simp only[D.GB];cases ρ id<;>rfl
 | nr id i n k=>simp only[D.GB];cases ρ id<;>rfl
 | _=>rfl
theorem Av3(ρ:Nat->Option Nat):∀cs:Ah,(Nd ρ cs).any D.Ag8=cs.any D.Ag8
 | []=>rfl
 | d::r=>by simp only[Nd,List.any_cons,Bo6,Av3 ρ r]
theorem Bo7{ρ:Nat->Option Nat}{d:D}(h:d.GB ρ= .cl []):d= .cl []:=by
 cases d with
 | ref id off len N=>simp only[D.GB] at h;cases b:ρ id<;>rw[b] at h<;>cases h
 | ptr id off=>simp only[D.GB] at h;cases b:ρ id<;>rw[b] at h<;>cases h
 | ea id i c N=>simp only[D.GB] at h;cases b:ρ id<;>rw[b] at h<;>cases h
 | mv id=>simp only[D.GB] at h;cases b:ρ id<;>rw[b] at h<;>cases h
 | E8 id n=>simp only[D.GB] at h;cases b:ρ id<;>rw[b] at h<;>cases h
 | Sn id i n=>simp only[D.GB] at h;cases b:ρ id<;>rw[b] at h<;>cases h
 | nr id i n k=>simp only[D.GB] at h;cases b:ρ id<;>rw[b] at h<;>cases h
 | cl e=>simpa only[D.GB] using h
 | _=>simp[D.GB] at h
theorem U6.GB{ρ:Nat->Option Nat}{M':Nat->Mb}{s B:Nat->Option Sg}{m:Mb}{o:AO}(h:U6 F w M s m o)
   (z:∀id j,ρ id=some j->s id≠none->M' j=M id/\B j=s id):U6 F w M' B m (o.GB ρ):=by
 cases o with
 | box cs H=>
   obtain ⟨r,row,t,h2,u,n⟩:=h;refine ⟨r,row,t,h2,by rw[KE];exact u,λ j d p=>?_,λ v E j f=>?_⟩
   . rw[Ob] at p;cases b:cs[j]? with
     | none=>rw[b] at p;cases p
     | some q=>rw[b] at p;cases p;exact ⟨(n.1 j q b).1.GB z,(n.1 j q b).2⟩
   . refine n.2 v (by rwa[Av3] at E) j ?_;rw[Ob] at f;cases b:cs[j]? with
     | none=>rw[b] at f;cases f
     | some q=>
       rw[b] at f;simp only[Ch,Bo] at f;rw[Bo7 f]
 | arr t x y=>exact h
 | Om x y=>exact h
 | iter l pos=>exact h
 | Ew g cs=>exact h
 | Ik s=>exact h
 | mp l=>exact h
 | Fi t e x k rows hole=>exact h
 | YH t x y i c d=>
   obtain ⟨row,r,h2,u,n,v⟩:=RT.row h;exact ⟨RT.pos h,RT.le h,RT.max h,RT.wid h,RT.at_ h,RT.nF h,row,r,h2,u,n.GB z,v⟩
theorem Ok:∀(T:Aq) (k id j:Nat),idx T k id=some j->∃i,j=k+i/\T[i]?=some id
 | [],k,id,j,h=>by simp[idx] at h
 | x::r,k,id,j,h=>by
   simp only[idx] at h;split at h
   . rename_i e;cases h;exact ⟨0,AQ,by simp[e]⟩
   . obtain ⟨i,b,h2⟩:=Ok r (k+1) id j h;exact ⟨i+1,AQ,by simpa using h2⟩
theorem Avj(h:Hp)(ρ:Nat->Option Nat):∀(T:Aq) (k j:Nat),get (sub h ρ k T) j=if k<=j then ((T[j - k]?).bind (get h)).map (AO.GB ρ) else none
 | [],k,j=>by simp[sub,get]
 | id::r,k,j=>by
   have b:=Avj h ρ r (k+1) j;by_cases e:k=j
   . subst e;simp only[sub,Bk,Cf,Nat.sub_self,BF,Bd];cases f:get h id with
     | some o=>simp[Dk]
     | none=>rw[b,if_neg AQ];simp
   . have:get (sub h ρ k (id::r)) j=get (sub h ρ (k+1) r) j:=by
       simp only[sub];cases f:get h id with
       | some o=>rw[Dk,if_neg e]
       | none=>rfl
     rw[this,b];by_cases h2:k+1<=j
     . rw[if_pos h2,if_pos AQ,show j - k=(j - (k+1))+1 from AQ,List.getElem?_cons_succ]
     . rw[if_neg h2,if_neg AQ]
theorem Ahq{T:Aq}(h:T.Nodup){i j x:Nat}(e:T[i]?=some x)(f:T[j]?=some x):i=j:=by
 have b:=(Bn.1 e);have h2:=(Bn.1 f);exact (List.getElem_inj (h₀:=b.1) (h₁:=h2.1) h).1 (b.2.trans h2.2.symm)
theorem Adx{q:Nat}{h:Hp}:∀{h':Hp},fresh q h h'->∀j o,get h' j=some o->base<=j∨get h (10000*(j+1)+q)=none
 | [],_,j,o,b=>by simp[get] at b
 | (k,x)::r,f,j,o,b=>by
   rw[Dk] at b;split at b
   . rename_i e;subst e;exact f.1
   . exact Adx f.2 j o b
theorem get_merge{T:Aq}{q:Nat}{h:Hp}:∀{h':Hp} (id:Nat),
   (∃j o,get h' j=some o/\back T q j=some id/\get (merge T q h h') id=some (o.GB (back T q)))∨
   ((∀j o,get h' j=some o->back T q j≠some id)/\get (merge T q h h') id=get h id)∨¬(∀i j,back T q i=some id->back T q j=some id->(∃o,get h' i=some o)->(∃o,get h' j=some o)->i=j)
 | [],id=> .inr (.inl ⟨λ j o f=>by simp[get] at f,rfl⟩)
 | (k,x)::r,id=>by
   by_cases Ze:∀i j,back T q i=some id->back T q j=some id->(∃o,get ((k,x)::r) i=some o)->(∃o,get ((k,x)::r) j=some o)->i=j
   case neg=>exact .inr (.inr Ze)
   by_cases hb:back T q k=some id
   . refine .inl ⟨k,x,by simp[Dk],hb,?_⟩;simp only[merge,hb,DJ,Cf]
   . have Aoh:get (merge T q h ((k,x)::r)) id=get (merge T q h r) id:=by
       simp only[merge];cases u:back T q k with
       | none=>rfl
       | some WO=>rw[DJ,if_neg (λ e=>hb (by rw[u,e]))]
     have g:∀i,(∃o,get r i=some o)->back T q i=some id->∃o,get ((k,x)::r) i=some o:=λ i ⟨o,v⟩ l=>by
       rw[Dk];by_cases e:k=i
       . subst e;exact (hb l).elim
       . rw[if_neg e];exact ⟨o,v⟩
     rcases get_merge (T:=T) (q:=q) (h:=h) (h':=r) id with ⟨j,o,b,h2,t⟩ | ⟨b,h2⟩ | b
     . refine .inl ⟨j,o,?_,h2,by rw[Aoh];exact t⟩;rw[Dk,if_neg (λ e=>by subst e;exact hb h2)];exact b
     . refine .inr (.inl ⟨λ j o f=>?_,by rw[Aoh];exact h2⟩);rw[Dk] at f;split at f
       . rename_i e;subst e;exact hb
       . exact b j o f
     . exact (b λ i j p s m n=>Ze i j p s (g i m p) (g j n s)).elim
theorem Aaf(B:Rel c st a w F M){f:AH}{ds:Ah}{q:Nat}{k:D->Hp->Prop}{vs:Array Value}(hd:Np F w M (sg st.hp) ds vs.toList)(h:LD P st.hp f ds q k):
   Bil P f vs w λ e w'=>∃v d h' F' M',e= .returned v/\k d h'/\Rel c {st with hp:=h'} a w' F' M'/\DR F' w' M' (sg h') d v:=by
 unfold LD at h;generalize F3 st.hp (Fe ds)=T at h;obtain ⟨hT,Fx,Adu⟩:=h;have VE:∀id,id∈T->∃o,get st.hp id=some o:=λ id hid=>by
   have:=BB.1 Fx id hid;exact Cj.1 this
 have Avh:∀j,get (sub st.hp (idx T base) base T) j=if base<=j then ((T[j - base]?).bind (get st.hp)).map (AO.GB (idx T base)) else none:=Avj _ _ T base
 have Be5:∀i id,T[i]?=some id->sg (sub st.hp (idx T base) base T) (base+i)=sg st.hp id:=λ i id s=>by
   unfold sg;rw[Avh,if_pos (Nat.le_add_right _ _),B9,s];cases l:get st.hp id with
   | none=>simp[l]
   | some o=>simp[l,AO.Asg]
 have hρ:∀id j,idx T base id=some j->sg st.hp id≠none->(λ j=>M (T.getD (j - base) 0)) j=M id/\sg (sub st.hp (idx T base) base T) j=sg st.hp id:=λ id j m _=>by
   obtain ⟨i,rfl,s⟩:=Ok T base id j m;refine ⟨?_,Be5 i id s⟩;simp only[B9,Bu,s,BP]
 have At5:∀b,Ht (λ j=>M (T.getD (j - base) 0)) (sub st.hp (idx T base) base T) b->∃(i id:Nat) (o:AO),T[i]?=some id/\get st.hp id=some o/\o.JO (M id) b:=by
   rintro b ⟨j,o,m,DE⟩;rw[Avh] at m;split at m
   case isFalse=>cases m
   cases s:T[j - base]? with
   | none=>rw[s] at m;simp at m
   | some id=>
     rw[s] at m;simp only[Bd] at m;cases l:get st.hp id with
     | none=>rw[l] at m;simp at m
     | some p=>
       rw[l] at m;simp only[Ch,Bo] at m;subst m;have W:M (T.getD (j - base) 0)=M id:=by simp only[Bu,s,BP]
       simp only[W,AO.J3] at DE ⊢;exact ⟨j - base,id,p,s,l,DE⟩
 have Qv:HR F w (λ j=>M (T.getD (j - base) 0)) (sub st.hp (idx T base) base T):=by
   have key:∀j o,get (sub st.hp (idx T base) base T) j=some o->∃id p,T[j - base]?=some id/\base<=j/\get st.hp id=some p/\o=p.GB (idx T base)/\M (T.getD (j - base) 0)=M id:=by
     intro j o m;rw[Avh] at m;split at m
     case isFalse=>cases m
     rename_i hle;cases s:T[j - base]? with
     | none=>rw[s] at m;simp at m
     | some id=>
       rw[s] at m;simp only[Bd] at m;cases l:get st.hp id with
       | none=>rw[l] at m;simp at m
       | some p=>
         rw[l] at m;simp only[Ch,Bo] at m;exact ⟨id,p,rfl,hle,l,m.symm,by simp only[Bu,s,BP]⟩
   constructor
   . intro j o m;obtain ⟨id,p,_,_,l,rfl,W⟩:=key j o m;simp only[W];exact (B.heap.obj id p l).GB hρ
   . intro j o S Q b m I7 DE FI;obtain ⟨id,p,s,hle,l,rfl,W⟩:=key j o m;obtain ⟨WO,I,a4,Bsv,Us,rfl,a0⟩:=key S Q I7;simp only[W,a0,AO.J3] at DE FI;have:=B.heap.inj id p WO I b l Us DE FI;subst this;have:=Ahq hT s a4;omega
 refine (Adu vs w F _ Qv B.keep.Fl (λ id hid=>by
   by_cases e:base<=id
   . exact e
   . exact (hid (by unfold sg;rw[Avh,if_neg e];rfl)).elim) (hd.GB hρ)).mono ?_
 rintro e w' ⟨v,h',r,F',M',rfl,⟨At8,hk⟩,XV,Bpa,y⟩;refine ⟨v,D.GB (back T q) r,merge T q st.hp h',F',?_⟩;have LB:∀j id,back T q j=some id->(∃o,get h' j=some o)->(base<=j/\T[j - base]?=some id)∨(j<base/\get st.hp id=none):=by
   intro j id hb ⟨o,l⟩;unfold back at hb;by_cases e1:base<=j
   . rw[if_pos e1] at hb;exact .inl ⟨e1,hb⟩
   . rw[if_neg e1] at hb;simp only[Bo] at hb;refine .inr ⟨AQ,?_⟩;have:=(Adx At8 j o l).resolve_left e1;rwa[hb] at this
 have Ze:∀id i j,back T q i=some id->back T q j=some id->(∃o,get h' i=some o)->(∃o,get h' j=some o)->i=j:=by
   intro id i j s m a5 a6;have g:=LB i id s a5;have h2:=LB j id m a6;rcases g with ⟨g,u⟩ | ⟨g,u⟩<;>rcases h2 with ⟨h2,H⟩ | ⟨h2,H⟩
   . have:=Ahq hT u H;omega
   . obtain ⟨o,l⟩:=VE id (Bt u);rw[H] at l;cases l
   . obtain ⟨o,l⟩:=VE id (Bt H);rw[u] at l;cases l
   . unfold back at s m;rw[if_neg AQ] at s m;simp only[Bo] at s m;omega
 classical
 let M2:Nat->Mb:=λ id=>if hx:∃j,(∃o,get h' j=some o)/\back T q j=some id then M' hx.choose else M id
 have E:∀j id,(∃o,get h' j=some o)->back T q j=some id->M2 id=M' j:=by
   intro j id l hb;have hx:∃j,(∃o,get h' j=some o)/\back T q j=some id:=⟨j,l,hb⟩;simp only[M2,dif_pos hx];rw[Ze id _ _ hx.choose_spec.2 hb hx.choose_spec.1 l]
 have At9:∀id,(∀j o,get h' j=some o->back T q j≠some id)->M2 id=M id:=by
   intro id XM;simp only[M2];rw[dif_neg];rintro ⟨j,⟨o,l⟩,hb⟩;exact XM j o l hb
 have Ds:∀id,(∃j o,get h' j=some o/\back T q j=some id/\get (merge T q st.hp h') id=some (o.GB (back T q)))∨
     ((∀j o,get h' j=some o->back T q j≠some id)/\get (merge T q st.hp h') id=get st.hp id):=by
   intro id;rcases get_merge (T:=T) (q:=q) (h:=st.hp) (h':=h') id with g | g | g
   . exact .inl g
   . exact .inr g
   . exact (g (Ze id)).elim
 have Z:∀j id,back T q j=some id->sg h' j≠none->M2 id=M' j/\sg (merge T q st.hp h') id=sg h' j:=by
   intro j id hb hs;have l:∃o,get h' j=some o:=by
     cases Y:get h' j with
     | none=>exact (hs (by simp[sg,Y])).elim
     | some o=>exact ⟨o,rfl⟩
   refine ⟨E j id l hb,?_⟩;rcases Ds id with ⟨j2,p,g,h2,u⟩ | ⟨g,_⟩
   . have:=Ze id j j2 hb h2 l ⟨p,g⟩;subst this;simp[sg,g,u,AO.Asg]
   . obtain ⟨o,l⟩:=l;exact (g j o l hb).elim
 have Bsp:∀id,(∃o,get st.hp id=some o)->id∉T->(∀j o,get h' j=some o->back T q j≠some id):=by
   intro id ⟨o,l⟩ hid j p m hb;rcases LB j id hb ⟨p,m⟩ with ⟨_,g⟩ | ⟨_,g⟩
   . exact hid (Bt g)
   . rw[g] at l;cases l
 have Adq:∀id o,get st.hp id=some o->id∉T->get (merge T q st.hp h') id=some o/\M2 id=M id:=by
   intro id o l hid;have XM:=Bsp id ⟨o,l⟩ hid;rcases Ds id with ⟨j,p,g,h2,u⟩ | ⟨_,h2⟩
   . exact (XM j p g h2).elim
   . exact ⟨by rw[h2,l],At9 id XM⟩
 have Bos:Eb M M2 (sg st.hp) (sg (merge T q st.hp h')):=by
   have K:=y.sgk;simp only at K;refine ⟨λ id hid=>?_,λ id R n hid=>?_,λ id R n kk hid=>?_⟩
   . by_cases JP:id∈T
     . obtain ⟨i,s⟩:=B7.1 JP;obtain ⟨g,h2⟩:=K.1 (base+i) (by rw[Be5 i id s];exact hid);have hb:back T q (base+i)=some id:=by unfold back;rw[if_pos (Nat.le_add_right _ _),B9];exact s
       obtain ⟨u,H⟩:=Z _ _ hb (by rw[g];simp);refine ⟨by rw[H,g],?_⟩;rw[u,h2];simp only[B9,Bu,s,BP]
     . obtain ⟨o,l,a7⟩:=Bd2 hid;obtain ⟨g,h2⟩:=Adq id _ l JP;exact ⟨by simp[sg,g,a7],by rw[h2]⟩
   . by_cases JP:id∈T
     . obtain ⟨i,s⟩:=B7.1 JP;obtain ⟨n',g,Ho,h2⟩:=K.2.1 (base+i) R n (by rw[Be5 i id s];exact hid);have hb:back T q (base+i)=some id:=by unfold back;rw[if_pos (Nat.le_add_right _ _),B9];exact s
       obtain ⟨u,H⟩:=Z _ _ hb (by rw[g];simp);refine ⟨n',by rw[H,g],Ho,λ e=>?_⟩;rw[u,h2 e];simp only[B9,Bu,s,BP]
     . have:∃o,get st.hp id=some o:=by
         cases Y:get st.hp id with
         | none=>simp[sg,Y] at hid
         | some o=>exact ⟨o,rfl⟩
       obtain ⟨o,l⟩:=this;obtain ⟨g,h2⟩:=Adq id o l JP;refine ⟨n,?_,Bk _,λ _=>h2⟩;simp only[sg,g,l] at hid ⊢;exact hid
   . by_cases JP:id∈T
     . obtain ⟨i,s⟩:=B7.1 JP;obtain ⟨n',k',g,Ho,Bpb,h2,LC⟩:=K.2.2 (base+i) R n kk (by rw[Be5 i id s];exact hid);have hb:back T q (base+i)=some id:=by unfold back;rw[if_pos (Nat.le_add_right _ _),B9];exact s
       obtain ⟨u,H⟩:=Z _ _ hb (by rw[g];simp);refine ⟨n',k',by rw[H,g],Ho,Bpb,λ e=>?_,λ e=>?_⟩
       . rw[u];have V:=h2 e;simp only[B9,Bu,s,BP] at V;exact V
       . rw[u];have V:=LC e;simp only[B9,Bu,s,BP] at V;exact V
     . have:∃o,get st.hp id=some o:=by
         cases Y:get st.hp id with
         | none=>simp[sg,Y] at hid
         | some o=>exact ⟨o,rfl⟩
       obtain ⟨o,l⟩:=this;obtain ⟨g,h2⟩:=Adq id o l JP;refine ⟨n,kk,?_,Bk _,Bk _,λ _=>by rw[h2];exact ⟨rfl,rfl⟩,λ _=>by rw[h2]⟩;simp only[sg,g,l] at hid ⊢;exact hid
 have Zd:∀id o b,get st.hp id=some o->o.JO (M id) b->id∉T->¬Ht (λ j=>M (T.getD (j - base) 0)) (sub st.hp (idx T base) base T) b:=by
   intro id o b l DE hid N;obtain ⟨i,z,p,g,h2,u⟩:=At5 _ N;have:=B.heap.inj z p id o b h2 l u DE;subst this;exact hid (Bt g)
 have hF:∀b,F b->w'.heap[b]?=w.heap[b]?:=λ b hb=>y.Up b (B.keep.Fl b hb) (λ N=>by
   obtain ⟨i,id,o,g,h2,u⟩:=At5 _ N;exact B.heap.PI ⟨id,o,h2,u⟩ hb)
 have Boz:∀id o b,get st.hp id=some o->o.JO (M id) b->id∉T->¬F' b:=λ id o b l DE hid hf=>by
   rcases y.Fn _ hf with g | g | g
   . exact B.heap.PI ⟨id,o,l,DE⟩ g
   . exact Zd id o b l DE hid g
   . have:=B.heap.lt ⟨id,o,l,DE⟩;simp only at g;omega
 refine ⟨M2,rfl,hk,?_,Bpa.GB Z⟩;have Al7:∀id o,get (merge T q st.hp h') id=some o->(∀j o,get h' j=some o->back T q j≠some id)->get st.hp id=some o->id∉T:=by
   intro id o _ XM l JP;obtain ⟨i,s⟩:=B7.1 JP;have hb:back T q (base+i)=some id:=by unfold back;rw[if_pos (Nat.le_add_right _ _),B9];exact s
   have hs:sg (sub st.hp (idx T base) base T) (base+i)≠none:=by rw[Be5 i id s];simp[sg,l]
   have:∃o,get h' (base+i)=some o:=by
     cases VD:sg (sub st.hp (idx T base) base T) (base+i) with
     | none=>exact (hs VD).elim
     | some s2=>
       cases s2 with
       | box=>
         have g:=(y.sgk.1 _ VD).1;obtain ⟨o,a2,_⟩:=Bd2 g;exact ⟨_,a2⟩
       | arr R n=>
         obtain ⟨n',g,_⟩:=y.sgk.2.1 _ R n VD;rcases Bo3 g with ⟨t,es,h2,_⟩ | ⟨es,h2,_⟩ | ⟨_,h2,_⟩ | ⟨_,_,_,_,_,h2,_⟩
         . exact ⟨_,h2⟩
         . exact ⟨_,h2⟩
         . exact ⟨_,h2⟩
         . exact ⟨_,h2⟩
       | Fi R n kk=>
         obtain ⟨n',k',g,_⟩:=y.sgk.2.2 _ R n kk VD;unfold sg at g;cases a3:get h' (base+i) with
         | none=>rw[a3] at g;simp at g
         | some o3=>exact ⟨o3,rfl⟩
   obtain ⟨p,x⟩:=this;exact XM _ p x hb
 constructor
 . intro t d ht;exact (B.env t d ht).keep hF y.F0 Bos
 . exact B.size
 . exact B.defers
 . constructor
   . intro id o l;rcases Ds id with ⟨j,p,g,h2,u⟩ | ⟨g,h2⟩
     . rw[u] at l;cases l;rw[E j id ⟨p,g⟩ h2];exact (XV.obj j p g).GB Z
     . have Us:get st.hp id=some o:=by rw[<-h2];exact l
       have hid:=Al7 id o l g Us;rw[At9 id g];exact (B.heap.obj id o Us).keep hF y.F0 Bos (λ b DE=>⟨y.Up b (B.heap.lt ⟨id,o,Us,DE⟩) (Zd id o b Us DE hid),Boz id o b Us DE hid⟩)
   . intro id o WO Q b l Us DE FI;have Bmg:∀j oj z p,get h' j=some oj->oj.JO (M' j) b->get st.hp z=some p->p.JO (M z) b->z∉T->False:=by
       intro j oj z p m Bsn h2 Avf Bzv;rcases y.own _ ⟨j,oj,m,Bsn⟩ with u | u
       . exact Zd z p b h2 Avf Bzv u
       . have:=B.heap.lt ⟨z,p,h2,Avf⟩;simp only at u;omega
     rcases Ds id with ⟨j,p,g,h2,u⟩ | ⟨g,h2⟩<;>rcases Ds WO with ⟨S,I,Ho,LC,U⟩ | ⟨Ho,LC⟩
     . rw[u] at l;rw[U] at Us;cases l;cases Us;rw[E j id ⟨p,g⟩ h2] at DE;rw[E S WO ⟨I,Ho⟩ LC] at FI;have:=XV.inj j p S I b g Ho ((AO.J3 _ _ _ _).1 DE) ((AO.J3 _ _ _ _).1 FI);subst this;rw[h2] at LC;cases LC;rfl
     . rw[u] at l;cases l;have x:get st.hp WO=some Q:=by rw[<-LC];exact Us
       rw[E j id ⟨p,g⟩ h2] at DE;rw[At9 WO Ho] at FI;exact (Bmg j p WO Q g ((AO.J3 _ _ _ _).1 DE) x FI (Al7 WO Q Us Ho x)).elim
     . rw[U] at Us;cases Us;have x:get st.hp id=some o:=by rw[<-h2];exact l
       rw[E S WO ⟨I,Ho⟩ LC] at FI;rw[At9 id g] at DE;exact (Bmg S I id o Ho ((AO.J3 _ _ _ _).1 FI) x DE (Al7 id o l g x)).elim
     . have x:get st.hp id=some o:=by rw[<-h2];exact l
       have Bzj:get st.hp WO=some Q:=by rw[<-LC];exact Us
       rw[At9 id g] at DE;rw[At9 WO Ho] at FI;exact B.heap.inj id o WO Q b x Bzj DE FI
 . have Km:=B.keep;have Bee:∀b,Ht (λ j=>M (T.getD (j - base) 0)) (sub st.hp (idx T base) base T) b->c.O0 b∨c.w0.heap.size<=b:=λ b N=>by
     obtain ⟨i,id,o,g,h2,u⟩:=At5 _ N;exact Km.own _ ⟨id,o,h2,u⟩
   refine ⟨y.os.trans Km.os,y.tape.trans Km.tape,y.output.trans Km.output,CF Km.size y.size,λ b hb N=>?_,λ b hb=>y.F0 b (Km.F0 b hb),λ b hb=>?_,y.Fl,?_,Km.sgk.trans Bos,Km.s0b⟩
   . rw[y.Up b (Nat.lt_of_lt_of_le hb Km.size) (λ a1=>?_)]
     . exact Km.Up b hb N
     . rcases Bee b a1 with g | g
       . exact N g
       . omega
   . rcases y.Fn b hb with g | g | g
     . exact Km.Fn b g
     . exact .inr (Bee b g)
     . exact .inr (.inr (CF Km.size g))
   . rintro b ⟨id,o,l,DE⟩;rcases Ds id with ⟨j,p,g,h2,u⟩ | ⟨g,h2⟩
     . rw[u] at l;cases l;rw[E j id ⟨p,g⟩ h2] at DE;rcases y.own _ ⟨j,p,g,(AO.J3 _ _ _ _).1 DE⟩ with H | H
       . exact Bee _ H
       . exact .inr (CF Km.size H)
     . have x:get st.hp id=some o:=by rw[<-h2];exact l
       rw[At9 id g] at DE;exact Km.own _ ⟨id,o,x,DE⟩
end
end Go.Am
namespace Go.Am
open Go
section
variable {P:AK} {c:Ctx} {st:St} {a:Act} {w:AI} {F:Nat->Prop} {M:Nat->Mb}
theorem Rel.put(b:Rel c st a w F M){d:D}{v:AJ}(k:DR F w M (sg st.hp) d v)(t:Option Tmp):Rel c (st.put t d) (a.put t v) w F M:=by
 cases t with
 | none=>exact b
 | some t=>
   simp only[St.put,Act.put];by_cases g:t<st.n
   . rw[if_pos g];have Dv:t<a.tmps.size:=by rw[b.size];exact g
     refine ⟨λ q e f=>?_,by simp[b.size],b.defers,b.heap,b.keep⟩;simp only[Dk] at f;have HO:=b.size;by_cases i:t=q
     . subst i;simp only[Cf,Bo] at f;subst f;have:(a.tmps.setIfInBounds t v).getD t undef=v:=by rw[Bs,Array.getElem?_setIfInBounds,if_pos rfl,if_pos Dv];rfl
       rw[this];exact k
     . rw[if_neg i] at f;have:(a.tmps.setIfInBounds t v).getD q undef=a.tmps.getD q undef:=by rw[Bs,Bs,Array.getElem?_setIfInBounds,if_neg i]
       rw[this];exact b.env q e f
   . rw[if_neg g];have:a.tmps.setIfInBounds t v=a.tmps:=by
       have j:¬t<a.tmps.size:=by rw[b.size];exact g
       unfold Array.setIfInBounds;rw[dif_neg j]
     rw[this];exact b
theorem Gr(i:Rel c st a w F M){d:D}{v:AJ}(g:DR F w M (sg st.hp) d v){k:D->Hp->Prop}(h:bor st.hp d k):
   ∃e h' F',k e h'/\Rel c {st with hp:=h'} a w F' M/\(∀b,F b->F' b)/\sg h'=sg st.hp/\DR F' w M (sg h') e v:=by
 have plain:k d st.hp->∃e h' F',k e h'/\Rel c {st with hp:=h'} a w F' M/\(∀b,F b->F' b)/\sg h'=sg st.hp/\DR F' w M (sg h') e v:=
   λ f=>⟨d,st.hp,F,f,i,λ _ h=>h,rfl,g⟩
 unfold bor at h;cases d with
 | ref id off len N=>
   have h2:PH st.hp (.ref id off len N) (λ x h'=>k (.p x) h'):=by
     unfold PH;simp only at h ⊢;exact h
   obtain ⟨x,h',F',f,j,l,m,o⟩:=Od i g h2;exact ⟨_,h',F',f,j,l,m,.p o⟩
 | E8 id n=>
   have h2:PH st.hp (.E8 id n) (λ x h'=>k (.p x) h'):=by
     unfold PH;simp only at h ⊢;exact h
   obtain ⟨x,h',F',f,j,l,m,o⟩:=Od i g h2;exact ⟨_,h',F',f,j,l,m,.p o⟩
 | cl r=>cases g with | cl _ q hx _=>exact ⟨_,st.hp,F,h,i,λ _ h=>h,rfl,.p hx⟩
 | _=>exact plain h
mutual
theorem RN:∀(d:D) {st:St} {F:Nat->Prop} {v:AJ},Rel c st a w F M->DR F w M (sg st.hp) d v->∀{k:D->Hp->Prop},HM st.hp d k->
    ∃d' h' F',k d' h'/\Rel c {st with hp:=h'} a w F' M/\(∀b,F b->F' b)/\sg h'=sg st.hp/\DR F' w M (sg h') d' v
  | .agg cs,st,F,v,hr,hd,k,h=>by
    cases hd with
    | agg _ vs hl hc=>
      simp only[HM] at h;obtain ⟨ds,h',F',hk,h1,h2,h3,h4⟩:=Pv cs vs.toList hr ⟨by simpa using hl,λ i e he=>by have:=hc i e he;simpa [List.getD,Array.getD_eq_getD_getElem?] using this⟩ h;exact ⟨_,h',F',hk,h1,h2,h3,.agg _ vs (by have:=h4.1;simpa using this) (λ i e he=>by have:=h4.2 i e he;simpa [List.getD,Array.getD_eq_getD_getElem?] using this)⟩
  | .Em cs,st,F,v,hr,hd,k,h=>by
    cases hd with
    | Em _ vs hl hc=>
      simp only[HM] at h;obtain ⟨ds,h',F',hk,h1,h2,h3,h4⟩:=Pv cs vs.toList hr ⟨by simpa using hl,λ i e he=>by have:=hc i e he;simpa [List.getD,Array.getD_eq_getD_getElem?] using this⟩ h;exact ⟨_,h',F',hk,h1,h2,h3,.Em _ vs (by have:=h4.1;simpa using this) (λ i e he=>by have:=h4.2 i e he;simpa [List.getD,Array.getD_eq_getD_getElem?] using this)⟩
  | .p x,st,F,v,hr,hd,k,h=>Gr hr hd (by simpa only[HM] using h)
  | .cl x,st,F,v,hr,hd,k,h=>Gr hr hd (by simpa only[HM] using h)
  | .cz x,st,F,v,hr,hd,k,h=>Gr hr hd (by simpa only[HM] using h)
  | .ref _ _ _ _,st,F,v,hr,hd,k,h=>Gr hr hd (by simpa only[HM] using h)
  | .ptr _ _,st,F,v,hr,hd,k,h=>Gr hr hd (by simpa only[HM] using h)
  | .pe _,st,F,v,hr,hd,k,h=>Gr hr hd (by simpa only[HM] using h)
  | .ea _ _ _ _,st,F,v,hr,hd,k,h=>Gr hr hd (by simpa only[HM] using h)
  | .fn _ _,st,F,v,hr,hd,k,h=>Gr hr hd (by simpa only[HM] using h)
  | .np,st,F,v,hr,hd,k,h=>Gr hr hd (by simpa only[HM] using h)
  | .mv _,st,F,v,hr,hd,k,h=>Gr hr hd (by simpa only[HM] using h)
  | .E8 _ _,st,F,v,hr,hd,k,h=>Gr hr hd (by simpa only[HM] using h)
  | .Sn _ _ _,st,F,v,hr,hd,k,h=>Gr hr hd (by simpa only[HM] using h)
  | .nr _ _ _ _,st,F,v,hr,hd,k,h=>Gr hr hd (by simpa only[HM] using h)
  | .WX,st,F,v,hr,hd,k,h=>Gr hr hd (by simpa only[HM] using h)
  | .bad,st,F,v,hr,hd,k,h=>Gr hr hd (by simpa only[HM] using h)
theorem Pv:∀(ds:Ah) {st:St} {F:Nat->Prop} (vs:At),Rel c st a w F M->Np F w M (sg st.hp) ds vs->∀{k:Ah->Hp->Prop},Ys st.hp ds k->
    ∃YG h' F',k YG h'/\Rel c {st with hp:=h'} a w F' M/\(∀b,F b->F' b)/\sg h'=sg st.hp/\Np F' w M (sg h') YG vs
  | [],st,F,vs,hr,hd,k,h=>by
    simp only[Ys] at h;exact ⟨[],st.hp,F,h,hr,λ _ h=>h,rfl,hd⟩
  | d::ds,st,F,vs,hr,hd,k,h=>by
    cases vs with
    | nil=>have:=hd.1;simp at this
    | cons v vs=>
      simp only[Ys] at h;have hd0:DR F w M (sg st.hp) d v:=by simpa [List.getD] using hd.2 0 d rfl
      obtain ⟨x,h1,F1,hk,KI,hF1,hs1,hx⟩:=RN d hr hd0 h;have Sr:Np F1 w M (sg h1) ds vs:=by
        refine ⟨by have:=hd.1;simpa using this,λ i e he=>?_⟩;have:=hd.2 (i+1) e (by simpa using he);rw[hs1];have h3:DR F w M (sg st.hp) e (vs.getD i undef):=by simpa [List.getD] using this
        exact h3.keep (λ _ _=>rfl) hF1 (Eb.refl _ _)
      obtain ⟨xs,h2,F2,Sp,JH,hF2,VD,Kl⟩:=Pv ds (st:={st with hp:=h1}) vs KI Sr hk;refine ⟨x::xs,h2,F2,Sp,JH,λ b hb=>hF2 b (hF1 b hb),VD.trans hs1,by have:=Kl.1;simpa using this,λ i y hy=>?_⟩;cases i with
      | zero=>
        simp only[BF,Bo] at hy;subst hy;have h4:=hx.keep (w':=w) (λ _ _=>rfl) hF2 (Eb.refl M (sg h1));rw[VD]
        simpa [List.getD] using h4
      | succ i=>simp only[List.getElem?_cons_succ] at hy;simpa [List.getD] using Kl.2 i y hy
end
theorem Zi(f:Rel c st a w F M)(e:AD):Np F w M (sg st.hp) (e.map (ev st)) (e.map a.eval):=by
 refine ⟨AT,λ i d b=>?_⟩;rw[BC] at b;cases hx:e[i]? with
 | none=>rw[hx] at b;cases b
 | some x=>
   rw[hx] at b;cases b;rw[Bu,BC,hx];exact Dj f x
theorem Ade{o:Hp}{t:AG}{x:D}{k:D->Prop}(h:Bdn P o t x k){s:AJ}(hx:DR F w M (sg o) x s)(B:Array TypeId)(ty:AG)(f:B[0]?=some t):
   ∃d v,k d/\DR F w M (sg o) d v/\(Builtin.len_ B ty #[s]).run P w= .ok v w:=by
 unfold Bdn at h;split at h
 case h_2=>exact h.elim
 rename_i K E;obtain ⟨I,Q,R,Ol,H8,_,rfl⟩:=Df E;split at h
 . rename_i l b;obtain rfl:=TK.of_string b;cases hx with | p hx=>cases hx;exact ⟨_,_,h,.p (.int _ _),by simp[Builtin.len_,f,run_underlying H8,goInt,Qd]⟩
 . rename_i e u b;obtain rfl:=TK.of_slice b;cases hx with | p hx=>
     have:∃g cap,s= .slice g u.length cap:=by cases hx<;>exact ⟨_,_,rfl⟩
     obtain ⟨g,cap,rfl⟩:=this;exact ⟨_,_,h,.p (.int _ _),by simp[Builtin.len_,f,run_underlying H8,goInt]⟩
 . rename_i e u b;obtain rfl:=TK.of_slice b;cases hx with | cl _ g hx _=>exact ⟨_,_,h,.p (.int _ _),by simp[Builtin.len_,f,run_underlying H8,goInt]⟩
 . rename_i e id off len N b;obtain rfl:=TK.of_slice b;cases hx with
   | ref _ _ _ _ z n _ r y j h2=>
     rw[r] at h;obtain ⟨g,cap,rfl,_⟩:=h2 h.1;exact ⟨_,_,h.2,.p (.int _ _),by simp[Builtin.len_,f,run_underlying H8,goInt]⟩
 . rename_i e id n b;obtain rfl:=TK.of_slice b;cases hx with
   | E8 _ _ z m H _ r y j h2=>
     obtain ⟨g,cap,rfl,_⟩:=j;exact ⟨_,_,h,.p (.int _ _),by simp[Builtin.len_,f,run_underlying H8,goInt]⟩
 . rename_i e id i len q b;obtain rfl:=TK.of_slice b;cases hx with
   | nr _ _ _ _ z m H _ r y j h2=>
     obtain ⟨g,cap,rfl⟩:=j;exact ⟨_,_,h,.p (.int _ _),by simp[Builtin.len_,f,run_underlying H8,goInt]⟩
 . rename_i n e _ b;obtain rfl:=TK.of_array b;exact ⟨_,_,h,.p (.int _ _),by simp[Builtin.len_,f,run_underlying H8,goInt]⟩
 . exact h.elim
theorem Ao8{α:Type}{x:α}{f:Operand->α}{b:Array Operand}(h:b.toList.map f=[x]):∃q,b=#[q]/\f q=x:=by
 obtain ⟨l⟩:=b;simp only at h;cases l with
 | nil=>simp at h
 | cons q r=>
   cases r with
   | nil=>simp only[B0,List.map_nil,List.cons.injEq,and_true] at h;exact ⟨q,rfl,h⟩
   | cons _ _=>simp at h
theorem Anl{P:AK}{w:AI}(e:Array TypeId)(t:AG)(k k' b:IntKind)(x y z:Int):(Builtin.min_ e t #[.int k x,.int k' y,.int b z]).run P w= .ok (.int k (if z<(if y<x then y else x) then z else (if y<x then y else x))) w:=by
 simp[Builtin.min_,Builtin.min2]
theorem Adb{α:Type}{x y z:α}{f:Operand->α}{b:Array Operand}(h:b.toList.map f=[x,y,z]):∃q r s,b=#[q,r,s]/\f q=x/\f r=y/\f s=z:=by
 obtain ⟨l⟩:=b;simp only at h;rcases l with _ | ⟨q,_ | ⟨r,_ | ⟨s,_ | ⟨u,l⟩⟩⟩⟩
 . simp at h
 . simp at h
 . simp at h
 . simp only[B0,List.map_nil,List.cons.injEq,and_true] at h;exact ⟨q,r,s,rfl,h.1,h.2.1,h.2.2⟩
 . simp at h
theorem MO{α:Type}{x y:α}{f:Operand->α}{b:Array Operand}(h:b.toList.map f=[x,y]):∃q r,b=#[q,r]/\f q=x/\f r=y:=by
 obtain ⟨l⟩:=b;simp only at h;cases l with
 | nil=>simp at h
 | cons q r=>
   cases r with
   | nil=>simp at h
   | cons e g=>
     cases g with
     | nil=>simp only[B0,List.map_nil,List.cons.injEq,and_true] at h;exact ⟨q,e,rfl,h.1,h.2⟩
     | cons _ _=>simp at h
theorem T6(g:Rel c st a w F M){o:Oper}{cl:Call}{b:Builtin}(E:o.op= .call cl)(hb:cl.callee= .builtin b){q:Nat}{k:D->Hp->Prop}
   (h:T7 P st q b cl.argTypes (cl.args.toList.map (ev st)) k):
   ∃d h' v w' M',k d h'/\Rel c {st with hp:=h'} a w' F M'/\DR F w' M' (sg h') d v/\(execOp a.eval o).run P w= .ok (.value v) w':=by
 unfold T7 at h;generalize B:cl.args.toList.map (ev st)=l at h;split at h
 ·
   rename_i x;obtain ⟨i,I6,rfl⟩:=Ao8 B;split at h
   case h_2=>exact h.elim
   rename_i t I;obtain ⟨d,v,f,h2,j⟩:=Ade (P:=P) h (Dj g i) cl.argTypes o.type I;exact ⟨d,_,v,w,M,f,g,h2,by simp[execOp,E,hb,resolve,invoke,builtin,I6,j]⟩
 ·
   rename_i s x;obtain ⟨u,i,I6,rfl,rfl⟩:=MO B;split at h
   case h_2=>exact h.elim
   rename_i t t2 I K;obtain ⟨d,h',v,w',M',f,h2,j,Q⟩:=Auf (P:=P) (ty:=o.type) g (Dj g u) (Dj g i) h;have e:Builtin.append_ cl.argTypes o.type #[a.eval u,a.eval i]=Builtin.append_ #[t,t2] o.type #[a.eval u,a.eval i]:=by
     simp[Builtin.append_,I,K]
   exact ⟨d,h',v,w',M',f,h2,j,by simp[execOp,E,hb,resolve,invoke,builtin,I6,e,Q]⟩
 ·
   rename_i s x;obtain ⟨u,i,I6,rfl,rfl⟩:=MO B;split at h
   case h_2=>exact h.elim
   rename_i t t2 I K;obtain ⟨d,h',v,w',M',f,h2,j,Q⟩:=Aql (P:=P) (t2:=t2) (ty:=o.type) g (Dj g u) (Dj g i) h;have e:Builtin.copy_ cl.argTypes o.type #[a.eval u,a.eval i]=Builtin.copy_ #[t,t2] o.type #[a.eval u,a.eval i]:=by
     simp[Builtin.copy_,I]
   exact ⟨d,h',v,w',M',f,h2,j,by simp[execOp,E,hb,resolve,invoke,builtin,I6,e,Q]⟩
 ·
   rename_i S x T y;obtain ⟨i,r,I6,hx,N⟩:=MO B;obtain ⟨rfl,H⟩:=h;have f:=Dj g i;have h2:=Dj g r;rw[hx] at f;rw[N] at h2;generalize m:a.eval i=vx at f;generalize n:a.eval r=vy at h2;cases f with | p f=>cases f;cases h2 with | p h2=>
     cases h2;exact ⟨_,_,_,w,M,H,g,.p (.int _ _),by simp[execOp,E,hb,resolve,invoke,builtin,I6,m,n,run_min_int2]⟩
 ·
   rename_i S x T y;obtain ⟨i,r,I6,hx,N⟩:=MO B;obtain ⟨rfl,H⟩:=h;have f:=Dj g i;have h2:=Dj g r;rw[hx] at f;rw[N] at h2;generalize m:a.eval i=vx at f;generalize n:a.eval r=vy at h2;cases f with | p f=>cases f;cases h2 with | p h2=>
     cases h2;exact ⟨_,_,_,w,M,H,g,.p (.int _ _),by simp[execOp,E,hb,resolve,invoke,builtin,I6,m,n,run_max_int2]⟩
 . rename_i S x T y W z;obtain ⟨i,r,U,I6,hx,N,V⟩:=Adb B;obtain ⟨⟨rfl,rfl⟩,H⟩:=h;have f:=Dj g i;have h2:=Dj g r;have j:=Dj g U;rw[hx] at f;rw[N] at h2;rw[V] at j;generalize m:a.eval i=vx at f;generalize n:a.eval r=vy at h2;generalize R:a.eval U=vz at j;cases f with | p f=>cases f;cases h2 with | p h2=>cases h2;cases j with | p j=>
     cases j;exact ⟨_,_,_,w,M,H,g,.p (.int _ _),by simp[execOp,E,hb,resolve,invoke,builtin,I6,m,n,R,Anl]⟩
 . exact h.elim
theorem Ax2(l:Rel c st a w F M){o:Oper}{f:AM}{args:AD}{g:AH}{cap:Ah}{K:St->Prop}(j:EB o.op=some (f,args))(t:ev st f= .fn g cap)
   (u:LD P st.hp g (args.map (ev st)++cap) (o.dst.getD 0) λ d h'=>K (({st with hp:=h'}:St).put o.dst d)) (Q:Exit->Act->World->Prop):o.wp P a w (Good c K) Q:=by
 unfold EB at j;split at j
 case h_2=>cases j
 rename_i cl Q0;split at j
 case h_2=>cases j
 rename_i n p;simp only[Bo,Ci] at j;obtain ⟨rfl,rfl⟩:=j;have b:=Dj l n;rw[t] at b;generalize k:a.eval n=vf at b;cases b with
 | fn _ _ Afa x r=>
   have Nl:=(Zi l cl.args.toList).append (cs':=cap) (vs':=Afa.toList) ⟨by simpa using x,λ i e s=>by have:=r i e s;simpa [List.getD,Array.getD_eq_getD_getElem?] using this⟩;rcases Aaf (vs:=cl.args.map a.eval++Afa) l (by simpa using Nl) u with ⟨Lf,Wn⟩ | ⟨v,q,Ry,y,d,h2,F2,M2,m,Sp,JH,JT⟩
   . have EY:(execOp a.eval o).run P w= .ok (.enter g (cl.args.map a.eval++Afa)) w:=by
       simp only[execOp,Q0,p,resolve,k,Deferred.ofValue,Sem.run_bind,Sem.run_pure,Result.andThen_ok,invoke,Array.empty_append];exact Lf
     unfold Oper.wp;rw[EY];refine Wn.mono ?_;rintro e q ⟨v,d,h2,F2,M2,rfl,Sp,JH,JT⟩;exact ⟨_,F2,M2,Sp,JH.put JT o.dst⟩
   . have EY:(execOp a.eval o).run P w= .ok (.value v) q:=by
       simp only[execOp,Q0,p,resolve,k,Deferred.ofValue,Sem.run_bind,Sem.run_pure,Result.andThen_ok,invoke,Array.empty_append];exact Ry
     cases m;unfold Oper.wp;rw[EY];exact ⟨_,F2,M2,Sp,JH.put JT o.dst⟩
theorem YK(j:Rel c st a w F M){s:Bool}{o:Oper}{K:St->Prop}(h:YN P s o K st)(Q:Exit->Act->World->Prop):o.wp P a w (Good c K) Q:=by
 have val:∀{d v},K (st.put o.dst d)->DR F w M (sg st.hp) d v->(execOp a.eval o).run P w= .ok (.value v) w->o.wp P a w (Good c K) Q:=by
   intro d v m n EY;unfold Oper.wp;rw[EY];exact ⟨_,F,M,m,j.put n o.dst⟩
 have l:Bq6 P c st a w F o (λ d h=>K (({st with hp:=h}:St).put o.dst d))->o.wp P a w (Good c K) Q:=by
   rintro ⟨d,t,v,u,F',M',m,Qr,R,n,EY⟩;unfold Oper.wp;rcases EY with EY | ⟨rfl,EY⟩
   . rw[EY];exact ⟨_,F',M',m,Qr.put n o.dst⟩
   . rw[EY];exact ⟨_,F',M',m,Qr.put n o.dst⟩
 have other:(Pt P st o).all (λ x=>K (({st with hp:=x.2}:St).put o.dst x.1))->o.wp P a w (Good c K) Q:=by
   intro h;unfold Pt at h;split at h
   . rename_i cl p;split at h
     . rename_i b hb;obtain ⟨d,t,v,u,M',m,Qr,n,EY⟩:=T6 j p hb (RJ (k:=λ d h=>K (({st with hp:=h}:St).put o.dst d)) h);unfold Oper.wp;rw[EY];exact ⟨_,F,M',m,Qr.put n o.dst⟩
     . exact h.elim
   . exact l (JD j (MM h))
   . exact l (JD j (MM h))
   . exact l (JD j (MM h))
   . exact l (JD j (MM h))
   . exact l (JD j (MM h))
   . exact l (JD j (MM h))
   . exact l (JD j (MM h))
   . have N:=Amq (Rs.Dh (λ d n=>n.2) (Rs.all_bind h));obtain ⟨d,v,m,n,EY⟩:=Ah1 j N;exact val m n EY
 unfold YN at h;split at h
 . rename_i f args p;unfold EB at p;split at p
   case h_2=>cases p
   rename_i cl Q0;split at p
   case h_2=>cases p
   rename_i H I;simp only[Bo,Ci] at p;obtain ⟨rfl,rfl⟩:=p;rcases Rs.Jr h with h | h
   case inr=>exact h.2 c a w F M Q j
   have q:=Dj j H;unfold KL at h;split at h
   case h_2=>exact h.elim
   rename_i g cap z;rw[z] at q;generalize r:a.eval H=vf at q;cases q with
   | fn _ _ Afa T S=>
     have Nl:=(Zi j cl.args.toList).append (cs':=cap) (vs':=Afa.toList) ⟨by simpa using T,λ i e z=>by have:=S i e z;simpa [List.getD,Array.getD_eq_getD_getElem?] using this⟩;have hb:=RM (k:=λ E h=>RI (s=true/\VN P o K st) P h g E (o.dst.getD 0) λ d t=>K (({st with hp:=t}:St).put o.dst d)) (Rs.Dh (λ x hx=>hx.2) (Rs.all_bind h));obtain ⟨E,t,F',m,Qr,R,U,y⟩:=Pv _ _ j Nl hb;rcases Zz m with m | m
     case inr=>exact m.2 c a w F M Q j
     rcases Aaf (vs:=cl.args.map a.eval++Afa) Qr (by simpa using y) m with ⟨Lf,Wn⟩ | ⟨v,u,Ry,V,d,h2,F2,M2,B,Sp,JH,JT⟩
     . have EY:(execOp a.eval o).run P w= .ok (.enter g (cl.args.map a.eval++Afa)) w:=by
         simp only[execOp,Q0,I,resolve,r,Deferred.ofValue,Sem.run_bind,Sem.run_pure,Result.andThen_ok,invoke,Array.empty_append];exact Lf
       unfold Oper.wp;rw[EY];refine Wn.mono ?_;rintro e u ⟨v,d,h2,F2,M2,rfl,Sp,JH,JT⟩;exact ⟨_,F2,M2,Sp,JH.put JT o.dst⟩
     . have EY:(execOp a.eval o).run P w= .ok (.value v) u:=by
         simp only[execOp,Q0,I,resolve,r,Deferred.ofValue,Sem.run_bind,Sem.run_pure,Result.andThen_ok,invoke,Array.empty_append];exact Ry
       cases B;unfold Oper.wp;rw[EY];exact ⟨_,F2,M2,Sp,JH.put JT o.dst⟩
 . rcases Rs.Jr h with h | h
   . exact other h
   . exact h.2 c a w F M Q j
theorem n9(n:Rel c st a w F M){ops:Array Oper}{o:Oper}{yes no:Prop}(h:IV st ops.toList o.guard yes no):
   (Region.wanted o (yielded ops a.tmps)=true/\yes)∨(Region.wanted o (yielded ops a.tmps)=false/\no):=by
 unfold IV at h;split at h
 . rename_i k;exact .inl ⟨by simp[Region.wanted,k],h⟩
 . rename_i j want k;have i:∀{d:D},((ops.toList[j]?).bind (·.dst)).bind (get st.env)=some d->∃t,(ops[j]?).bind (·.dst)=some t/\DR F w M (sg st.hp) d (a.tmps.getD t undef):=by
     intro d g;rw[Cx] at g;cases m:(ops[j]?).bind (·.dst) with
     | none=>rw[m] at g;cases g
     | some t=>rw[m] at g;exact ⟨t,rfl,n.env t d g⟩
   split at h
   . rename_i b hb;obtain ⟨t,l,h2⟩:=i hb;have q:a.tmps[t]?=some (.bool b):=by
       generalize f:a.tmps.getD t undef=v at h2;cases h2 with | p h2=>
         cases h2;rw[Bs] at f;cases hx:a.tmps[t]? with
         | none=>rw[hx] at f;simp[undef] at f
         | some u=>rw[hx] at f;simp at f;rw[f]
     have r:Region.wanted o (yielded ops a.tmps)=(b==want):=by
       simp only[Region.wanted,k,yielded,l,Bd,q];cases b<;>cases want<;>rfl
     rw[r];by_cases e:(b==want)=true
     . exact .inl ⟨e,h.1 e⟩
     . exact .inr ⟨by simpa using e,h.2 (by simpa using e)⟩
   . rename_i hb;obtain ⟨t,l,h2⟩:=i hb;refine .inr ⟨?_,h⟩;simp only[Region.wanted,k,yielded,l,Bd];generalize f:a.tmps.getD t undef=v at h2;cases h2 with
     | Em _ x s _=>
       rw[Bs] at f;cases hx:a.tmps[t]? with
       | none=>rfl
       | some u=>rw[hx] at f;simp at f;rw[f];rfl
   . exact h.elim
theorem Rel.drew(e:Rel c st a w F M):Rel c st a {w with drawn:=w.drawn+1} F M:=by
 have f:=Eb.refl M (sg st.hp);refine ⟨λ t d g=>(e.env t d g).keep (λ _ _=>rfl) (λ _ h=>h) f,e.size,e.defers,e.heap.keep (λ _ _=>rfl) (λ _ _=>rfl),?_⟩;have b:=e.keep;exact ⟨b.os,b.tape,b.output,b.size,b.Up,b.F0,b.Fn,b.Fl,b.own,b.sgk,b.s0b⟩
theorem VS{Q:Exit->Act->World->Prop}{s:Bool}{K:St->Prop}(ops:Array Oper)(f:∀a w,Good c K a w->Q .normal a w):∀(l:As) {st:St} {a:Act} {w:AI} {F:Nat->Prop} {M:Nat->Mb},
   Rel c st a w F M->Afu P s ops.toList l K st->wpList P ops Q l a w
 | [],st,a,w,F,M,e,h=>f _ _ ⟨st,F,M,h,e⟩
 | o::rest,st,a,w,F,M,e,h=>by
   simp only[Afu] at h;refine wpList_step λ KK b=>?_;have yes:YN P s o (Afu P s ops.toList rest K) st->o.wp P a w KK Q:=λ k=>
     Oper.wp_mono (λ q r ⟨p,F',M',m,h2⟩=>b _ _ (VS ops f rest h2 m)) (YK e k Q)
   have no:Afu P s ops.toList rest K (st.put o.dst (.Em []))->KK (a.put o.dst undef) w:=λ g=>
     b _ _ (VS ops f rest (e.put (.Em [] #[] rfl (λ i d n=>by simp at n)) o.dst) g)
   rcases n9 e h with ⟨j,k⟩ | ⟨j,g⟩
   . rw[if_pos j];exact yes k
   . rw[if_neg (by rw[j];simp)];exact no g
theorem Bcr{K:St->Prop}{Q:Exit->St->Prop}{e:Exit}{a:Act}{w:AI}{N:Act->World->Prop}(f:∀st F M,K st->Rel c st a w F M->N a w)(h:QC c (thn K Q) e a w):Exit.then N (QC c Q) e a w:=by
 obtain ⟨st,F,M,b,h2⟩:=h;cases e<;>first
   | exact f st F M b h2
   | exact ⟨st,F,M,b,h2⟩
theorem Bpt{id:Nat}{Q:Exit->St->Prop}{e:Exit}{a:Act}{w:AI}(h:QC c (Fu id Q) e a w):Exit.inBlock id (QC c Q) e a w:=by
 obtain ⟨st,F,M,b,h2⟩:=h;cases e with
 | exit WO=>
   simp only[Fu] at b;simp only[Exit.inBlock];split at b
   . rename_i e;rw[if_pos e];exact ⟨st,F,M,b,h2⟩
   . rename_i e;rw[if_neg e];exact ⟨st,F,M,b,h2⟩
 | _=>exact ⟨st,F,M,b,h2⟩
theorem KT:∀(x:Code) {Q:Exit->St->Prop} {st:St} {a:Act} {w:AI} {F:Nat->Prop} {M:Nat->Mb},Rel c st a w F M->wA P x Q st->x.wp P (QC c Q) a w
 | .skip,Q,st,a,w,F,M,f,h=>wp_skip ⟨st,F,M,h,f⟩
 | .label _,Q,st,a,w,F,M,f,h=>wp_label ⟨st,F,M,h,f⟩
 | .ret,Q,st,a,w,F,M,f,h=>wp_ret ⟨st,F,M,h,f⟩
 | .exit id,Q,st,a,w,F,M,f,h=>wp_exit ⟨st,F,M,h,f⟩
 | .goto l,Q,st,a,w,F,M,f,h=>wp_goto ⟨st,F,M,h,f⟩
 | .seq x y,Q,st,a,w,F,M,f,h=>by
   simp only[wA] at h;exact wp_seq (Code.wp_mono (λ e i k g=>Bcr (λ st F M j h2=>KT y h2 j) g) (KT x f h))
 | .cond q x y,Q,st,a,w,F,M,f,h=>by
   simp only[wA] at h;have g:=Dj f q;split at h
   . rename_i b hb;rw[hb] at g;generalize o:a.eval q=v at g;cases g with | p g=>
       cases g;exact wp_cond_split o (λ e=>KT x f (h.1 e)) (λ e=>KT y f (h.2 e))
   . exact h.elim
 | .block id x,Q,st,a,w,F,M,f,h=>by
   simp only[wA] at h;exact wp_block (Code.wp_mono (λ e i k g=>Bpt g) (KT x f h))
 | .loop x,Q,st,a,w,F,M,f,h=>by
   simp only[wA] at h;obtain ⟨n,h⟩:=h;refine wp_loop_rounds n ?_;have key:∀(n:Nat) (st:St) (a:Act) (w:AI) (F:Nat->Prop) (M:Nat->Mb),Rel c st a w F M->Amn (wA P x) Q n st->Code.rounds P x (QC c Q) n a w:=by
     intro n
     induction n with
     | zero=>intro st a w F M _ h;exact h.elim
     | succ n r=>
       intro st a w F M f h;rw[rounds_succ];obtain ⟨Lt,Rx,h⟩:=h;obtain ⟨F1,M1,KI⟩:=Rx c a w F M f;exact Code.wp_mono (λ e i k g=>Bcr (λ st F M j h2=>r st _ _ F M h2 j) g) (KT x KI h)
   exact key n st a w F M f h
 | .scope x,Q,st,a,w,F,M,f,h=>by
   simp only[wA] at h;exact h c a w F M f
 | .region id ops draw,Q,st,a,w,F,M,f,h=>by
   simp only[wA] at h;rcases h with ⟨rfl,h⟩ | ⟨rfl,h⟩
   . exact wp_region_list (VS ops (λ i k m=>m) ops.toList f h)
   . exact h c a w F M f
 | .rangeFunc ..,Q,st,a,w,F,M,f,h=>by simp only[wA] at h
 | .refuse _,Q,st,a,w,F,M,f,h=>by simp only[wA] at h
end
end Go.Am
namespace Go.Am
open Go
def X2:Nat->Ah->Ar
 | _,[]=>[]
 | k,d::r=>(k,d)::X2 (k+1) r
def Ag3(P:AK)(st:St):List ResultVar->(Ah->Prop)->Prop
 | [],k=>k []
 | .tmp t::r,k=>Ag3 P st r λ a=>k ((get st.env t).getD .bad::a)
 | .cell t T::r,k=>Ahv P st.hp T ((get st.env t).getD .bad) λ d=>Ag3 P st r λ a=>k (d::a)
def Akc:Ah->D
 | [d]=>d
 | a=> .Em a
def UW(T:Aq)(id:Nat):Option Nat:=if base<=id then (if id∈T then some id else none) else idx (T.filter (· <base)) 0 id
def pick(h:Hp)(ρ:Nat->Option Nat):Aq->Hp
 | []=>[]
 | id::r=>match get h id,ρ id with
   | some o,some j=>(j,o.GB ρ)::pick h ρ r
   | _,_=>pick h ρ r
def Sj(h0:Aq)(a:Hp)(d:D)(R:Hp->D->Prop):Prop:=
 let T:=F3 a (h0++d.ids)
 T.Nodup/\(T.all λ id=>(get a id).isSome)=true/\(h0.all λ id=>base<=id&&T.contains id)=true/\(T.filter (· <base)).length<=base/\
 R (pick a (UW T) T) (d.GB (UW T))
def X3(h0:Aq)(a:Hp)(d:D)(R:Hp->D->Prop):Prop:=
 Sj h0 a d R∨HM a d λ b e=>Sj h0 e b R
def Cbc(P:AK)(fn:Func)(h0:Aq)(R:Hp->D->Prop):Exit->St->Prop
 | .normal,a | .ret,a=>Ag3 P a fn.results.toList λ b=>X3 h0 a.hp (Akc b) R
 | _,_=>False
section
variable {P:AK} {c:Ctx} {st:St} {a:Act} {w:AI} {F:Nat->Prop} {M:Nat->Mb}
theorem Ai2:∀(ds:Ah) (k t:Nat) (d:D),get (X2 k ds) t=some d->k<=t/\ds[t - k]?=some d
 | [],k,t,d,h=>by simp[X2,get] at h
 | x::r,k,t,d,h=>by
   simp only[X2,Dk] at h;split at h
   . rename_i e;cases h;subst e;exact ⟨Bk _,AT⟩
   . obtain ⟨b,h2⟩:=Ai2 r (k+1) t d h;exact ⟨AQ,by rw[show t - k=(t - (k+1))+1 from by omega];simpa using h2⟩
theorem Rel.start{h:Hp}{args:Ah}{vs:Array Value}{n:Nat}(Qv:HR F w M h)(Uw:∀b,F b->b<w.heap.size)(XH:∀id,sg h id≠none->base<=id)(f:Np F w M (sg h) args vs.toList)(k:args.length<=n):
   Rel ⟨w,F,Ht M h,M,sg h⟩ ⟨X2 0 args,h,n⟩ {tmps:=vs++Array.replicate (n - vs.size) undef,defers:=[]} w F M:=by
 have j:vs.size=args.length:=by simpa using f.1
 refine ⟨λ t d i=>?_,AW,rfl,Qv,⟨rfl,rfl,rfl,Bk _,λ _ _ _=>rfl,λ _ h=>h,λ _ h=> .inl h,Uw,λ _ h=> .inl h,Eb.refl _ _,XH⟩⟩;obtain ⟨_,h2⟩:=Ai2 args 0 t d i;have g:=f.2 t d (by simpa using h2);have Dv:=(Bn.1 h2).1;have e:(vs++Array.replicate (n - vs.size) undef).getD t undef=vs.toList.getD t undef:=by
   rw[Bs,Bu,Array.getElem?_append,if_pos AQ,Cx]
 rw[e];exact g
theorem V5(e:Rel c st a w F M):∀(l:List ResultVar) {k:Ah->Prop},Ag3 P st l k->
   ∃ds vs,k ds/\Np F w M (sg st.hp) ds vs/\(l.mapM λ | .tmp t=>pure (a.tmps.getD t undef) | .cell q t=>do loadVar t (<-asAddr (a.tmps.getD q undef)):Sem At).run P w= .ok vs w
 | [],k,h=>⟨[],[],h,⟨rfl,λ i d b=>by simp at b⟩,AT⟩
 | .tmp t::r,k,h=>by
   simp only[Ag3] at h;obtain ⟨ds,vs,g,h2,j⟩:=V5 e r h;have b:DR F w M (sg st.hp) ((get st.env t).getD .bad) (a.tmps.getD t undef):=Dj e (.tmp t);refine ⟨_,a.tmps.getD t undef::vs,g,⟨by simp[h2.1],λ i d YF=>?_⟩,?_⟩
   . cases i with
     | zero=>simp only[List.getElem?_cons_zero,Option.some.injEq] at YF;subst YF;simpa [List.getD] using b
     | succ i=>simp only[List.getElem?_cons_succ] at YF;simpa [List.getD] using h2.2 i d YF
   . rw[List.mapM_cons,Sem.run_bind,Sem.run_pure,Result.andThen_ok,Sem.run_bind,j];rfl
 | .cell t T::r,k,h=>by
   simp only[Ag3] at h;have b:DR F w M (sg st.hp) ((get st.env t).getD .bad) (a.tmps.getD t undef):=Dj e (.tmp t);obtain ⟨d,v,n,o,f⟩:=Z7 e.heap h b;obtain ⟨ds,vs,g,h2,j⟩:=V5 e r n;refine ⟨_,v::vs,g,⟨by simp[h2.1],λ i d YF=>?_⟩,?_⟩
   . cases i with
     | zero=>simp only[List.getElem?_cons_zero,Option.some.injEq] at YF;subst YF;simpa [List.getD] using o
     | succ i=>simp only[List.getElem?_cons_succ] at YF;simpa [List.getD] using h2.2 i d YF
   . have p:(do loadVar T (<-asAddr (a.tmps.getD t undef)):Sem Value).run P w= .ok v w:=by
       generalize a.tmps.getD t undef=x at f;cases x<;>simp[Instr.loadAt,Instr.sureAddr] at f;rename_i m;cases m<;>simp[Instr.sureAddr] at f
       simpa [asAddr] using f
     rw[List.mapM_cons,Sem.run_bind,p,Result.andThen_ok,Sem.run_bind,j];rfl
theorem Ary{s:Nat->Option Sg}{ds:Ah}{vs:At}(h:Np F w M s ds vs):DR F w M s (Akc ds) (if hx:vs.toArray.size=1 then vs.toArray[0] else .tuple vs.toArray):=by
 have b:=h.1;have Em:ds.length≠1->Akc ds= .Em ds:=by
   intro EH;cases ds with
   | nil=>rfl
   | cons d r=>cases r with
     | nil=>simp at EH
     | cons _ _=>rfl
 by_cases e:ds.length=1
 . obtain ⟨d,rfl⟩:=CG.1 e;obtain ⟨v,rfl⟩:=CG.1 (b.trans e);have:=h.2 0 d rfl
   simpa [Akc,List.getD] using this
 . rw[Em e,dif_neg AW];exact .Em ds vs.toArray (by simpa using b) (λ i d f=>by have:=h.2 i d f;simpa [List.getD,Array.getD_eq_getD_getElem?] using this)
theorem Qw{h:Hp}{ρ:Nat->Option Nat}:∀{T:Aq} {j:Nat} {o:AO},get (pick h ρ T) j=some o->∃id f,id∈T/\ρ id=some j/\get h id=some f/\o=f.GB ρ
 | [],j,o,b=>by simp[pick,get] at b
 | id::r,j,o,b=>by
   simp only[pick] at b;split at b
   . rename_i f k n m;rw[Dk] at b;split at b
     . rename_i e;subst e;cases b;exact ⟨id,f,AT,m,n,rfl⟩
     . obtain ⟨i,l,g,h2⟩:=Qw b;exact ⟨i,l,by simp[g],h2⟩
   . obtain ⟨i,l,g,h2⟩:=Qw b;exact ⟨i,l,by simp[g],h2⟩
theorem o9{h:Hp}{ρ:Nat->Option Nat}(Ze:∀i n j,ρ i=some j->ρ n=some j->i=n):∀{T:Aq} {id j:Nat} {o:AO},id∈T->ρ id=some j->get h id=some o->
   get (pick h ρ T) j=some (o.GB ρ)
 | [],id,j,o,g,_,_=>by simp at g
 | x::r,id,j,o,g,f,m=>by
   simp only[pick];by_cases e:x=id
   . subst e;rw[m,f];simp[Dk]
   . have l:id∈r:=by
       rcases BX.1 g with b | b
       . exact (e b.symm).elim
       . exact b
     have p:=o9 Ze l f m;split
     . rename_i u k t s;rw[Dk,if_neg (λ q=>e (Ze x id j (by rw[s,q]) f))];exact p
     . exact p
theorem Bd5{T:Aq}(hlen:(T.filter (· <base)).length<=base)(i k j:Nat)(h:UW T i=some j)(h':UW T k=some j):i=k:=by
 unfold UW at h h';by_cases f:base<=i<;>by_cases g:base<=k
 . rw[if_pos f] at h;rw[if_pos g] at h';split at h<;>split at h'<;>simp_all
 . rw[if_pos f] at h;rw[if_neg g] at h';obtain ⟨p,rfl,b⟩:=Ok _ _ _ _ h';split at h
   . simp only[Bo] at h;have:=(Bn.1 b).1;omega
   . cases h
 . rw[if_neg f] at h;rw[if_pos g] at h';obtain ⟨p,rfl,b⟩:=Ok _ _ _ _ h;split at h'
   . simp only[Bo] at h';have:=(Bn.1 b).1;omega
   . cases h'
 . rw[if_neg f] at h;rw[if_neg g] at h';obtain ⟨p,rfl,b⟩:=Ok _ _ _ _ h;obtain ⟨l,m,e⟩:=Ok _ _ _ _ h';have:p=l:=AQ;subst this;rw[b] at e;exact (Bf e)
theorem Oa(E:Rel c st a w F M){h0:Hp}(y:c.s0=sg h0)(S:∀b,c.O0 b↔Ht c.M0 h0 b){d:D}{v:AJ}{R:Hp->D->Prop}(U:DR F w M (sg st.hp) d v)(h:Sj (h0.map (·.1)) st.hp d R):
   ∃h' r M',R h' r/\HR F w M' h'/\DR F w M' (sg h') r v/\Aup c w F M' h':=by
 unfold Sj at h;generalize F3 st.hp (h0.map (·.1)++d.ids)=T at h;obtain ⟨hT,Fx,x,hlen,N⟩:=h;have Ze:=Bd5 hlen
 let M':Nat->Mb:=λ j=>if base<=j then M j else M ((T.filter (· <base)).getD j 0)
 have z:∀id j,UW T id=some j->id∈T/\M' j=M id:=by
   intro id j g;unfold UW at g;by_cases e:base<=id
   . rw[if_pos e] at g;split at g
     . rename_i t;simp only[Bo] at g;subst g;exact ⟨t,by simp only[M',if_pos e]⟩
     . cases g
   . rw[if_neg e] at g;obtain ⟨i,rfl,l⟩:=Ok _ _ _ _ g;have Dv:=(Bn.1 l).1;refine ⟨(List.mem_filter.1 (Bt l)).1,?_⟩;simp only[M'];rw[if_neg AQ,Bu,B4,l,BP]
 have Lz:∀id j,UW T id=some j->sg st.hp id≠none->M' j=M id/\sg (pick st.hp (UW T) T) j=sg st.hp id:=by
   intro id j g u;obtain ⟨t,Q⟩:=z id j g;refine ⟨Q,?_⟩;cases s:get st.hp id with
   | none=>exact (u (by simp[sg,s])).elim
   | some o=>
     have:=o9 Ze t g s;simp[sg,this,s,AO.Asg]
 have DE:∀b,Ht M' (pick st.hp (UW T) T) b->Ht M st.hp b:=by
   rintro b ⟨j,o,g,s⟩;obtain ⟨id,B,t,f,h2,rfl⟩:=Qw g;rw[(z id j f).2] at s;exact ⟨id,B,h2,(AO.J3 _ _ _ _).1 s⟩
 refine ⟨_,_,M',N,?_,U.GB Lz,?_⟩
 . constructor
   . intro j o g;obtain ⟨id,B,t,f,h2,rfl⟩:=Qw g;rw[(z id j f).2];exact (E.heap.obj id B h2).GB Lz
   . intro j o Y o' b g I7 s Us;obtain ⟨id,B,t,f,h2,rfl⟩:=Qw g;obtain ⟨WO,I,V,Ho,LC,rfl⟩:=Qw I7;rw[(z id j f).2] at s;rw[(z WO Y Ho).2] at Us;have:=E.heap.inj id B WO I b h2 LC ((AO.J3 _ _ _ _).1 s) ((AO.J3 _ _ _ _).1 Us);subst this;rw[f] at Ho;exact Bf Ho
 . have m:=E.keep;have Bpc:∀id,sg h0 id≠none->base<=id/\id∈T:=by
     intro id u;have JP:id∈h0.map (·.1):=by
       clear y S x N
       induction h0 with
       | nil=>simp[sg,get] at u
       | cons q r W=>
         obtain ⟨k,o⟩:=q;simp only[B0,BX];by_cases e:id=k
         . exact .inl e
         . right;apply W
           simpa [sg,Dk,Ne.symm e] using u
     have:=BB.1 x id JP;simp only[BA,BM] at this;exact ⟨this.1,by simpa using this.2⟩
   have Al8:∀id,sg h0 id≠none->UW T id=some id:=λ id u=>by
     obtain ⟨f,h2⟩:=Bpc id u;unfold UW;rw[if_pos f,if_pos h2]
   refine ⟨m.os,m.tape,m.output,m.size,m.Up,m.F0,m.Fn,m.Fl,λ b hb=>m.own b (DE b hb),?_,m.s0b⟩;have Lb:=m.sgk;rw[y] at Lb ⊢;refine ⟨λ id l=>?_,λ id K n l=>?_,λ id K n kk l=>?_⟩
   . obtain ⟨f,h2⟩:=Lb.1 id l;have p:=Lz id id (Al8 id (by rw[l];simp)) (by rw[f];simp);exact ⟨by rw[p.2,f],by rw[p.1,h2]⟩
   . obtain ⟨H,f,Ho,h2⟩:=Lb.2.1 id K n l;have p:=Lz id id (Al8 id (by rw[l];simp)) (by rw[f];simp);exact ⟨H,by rw[p.2,f],Ho,λ e=>by rw[p.1,h2 e]⟩
   . obtain ⟨H,Z,f,Ho,Bpb,h2,LC⟩:=Lb.2.2 id K n kk l;have p:=Lz id id (Al8 id (by rw[l];simp)) (by rw[f];simp);exact ⟨H,Z,by rw[p.2,f],Ho,Bpb,λ e=>by rw[p.1];exact h2 e,λ e=>by rw[p.1];exact LC e⟩
theorem Bc9{f:AH}{fn:Func}{code:Code}{args:Ah}{h:Hp}{R:Hp->D->Prop}{Q:Exit->St->Prop}(E:P.funcs[f]?=some fn)(hb:fn.body=some code)(Lf:Enters P f)
   (H:args.length<=fn.ntmps) (z:∀e st,Q e st->Cbc P fn (h.map (·.1)) R e st) (I:wA P code Q ⟨X2 0 args,h,fn.ntmps⟩):C4 P f args h R:=by
 refine λ K w F M Qv Uw XH B=> .inl ⟨Lf K w,calls_of_wp E hb (Code.wp_mono ?_ (KT code (Rel.start Qv Uw XH B H) I))⟩;rintro e a b ⟨st,F',M',p,l⟩;have s:=z e st p;have key:Ag3 P st fn.results.toList (λ q=>X3 (h.map (·.1)) st.hp (Akc q) R)->a.defers=[]/\∃v,(results fn a.tmps).run P b= .ok v b/\
     ∃u g r F' M',Ending.returned v=Ending.returned u/\R g r/\HR F' b M' g/\DR F' b M' (sg g) r u/\Aup ⟨w,F,Ht M h,M,sg h⟩ b F' M' g:=by
   intro O1;obtain ⟨q,i,j,h2,x⟩:=V5 l _ O1;have t:=Ary h2;refine ⟨l.defers,(if hx:i.toArray.size=1 then i.toArray[0] else .tuple i.toArray),?_,?_⟩;rotate_left
   . rcases j with j | j
     . obtain ⟨g,r,M2,k,m,n,o⟩:=Oa l rfl (λ _=>Iff.rfl) t j;exact ⟨_,g,r,F',M2,rfl,k,m,n,o⟩
     . obtain ⟨N,LC,F2,k,JH,y,VD,JT⟩:=RN _ l t j;obtain ⟨g,r,M2,k,m,n,o⟩:=Oa JH rfl (λ _=>Iff.rfl) JT k;exact ⟨_,g,r,F2,M2,rfl,k,m,n,o⟩
   . unfold results;rw[Sem.run_bind,Array.mapM_eq_mapM_toList,Sem.run_map];refine (B3 (λ r=>(r.andThen λ a b=>Result.ok a.toArray b).andThen λ (a:Array Value) b=>Sem.run P (pure (if h:a.size=1 then a[0] else Value.tuple a)) b) x).trans ?_;simp
 cases e<;>first
   | exact key s
   | exact s.elim
end
end Go.Am
namespace Go.Am
open Go
theorem nd.{u}{α:Sort u}{a b:α}(h:a=b):a=b:=h
def Akk(P:AK)(st:St):List ResultVar->Rs Ah
 | []=> .ret True []
 | .tmp t::r=>(Akk P st r).bind λ a=> .ret True ((get st.env t).getD .bad::a)
 | .cell t T::r=>(Tr P st.hp T ((get st.env t).getD .bad)).bind λ d=>(Akk P st r).bind λ a=> .ret True (d::a)
theorem Acq{P}{st}:∀{b:List ResultVar} {k:Ah->Prop},(Akk P st b).all k->Ag3 P st b k
 | [],k,h=>h.2
 | .tmp t::r,k,h=>by
   simp only[Akk] at h;simp only[Ag3];exact Acq (Rs.Dh (λ e a=>a.2) (Rs.all_bind h))
 | .cell t T::r,k,h=>by
   simp only[Akk] at h;simp only[Ag3];exact Ahu (Rs.Dh (λ d a=>Acq (Rs.Dh (λ e a=>a.2) (Rs.all_bind a))) (Rs.all_bind h))
inductive Kt where
 | user (Q:Exit->St->Prop)
 | fin (rs:List ResultVar) (h0:Aq) (R:Hp->D->Prop)
 | seq (y:Code) (k:Kt)
 | Fu (id:Nat) (k:Kt)
 | lp (x:Code) (n:Nat) (k:Kt)
def Kt.Ik(P:AK):Kt->Exit->St->Prop
 | .user Q=>Q
 | .fin g f R=>λ e a=>match e with
   | .normal | .ret=>(Akk P a g).all λ b=>X3 f a.hp (Akc b) R
   | _=>False
 | .seq y k=>thn (wA P y (k.Ik P)) (k.Ik P)
 | .Fu id k=>Go.Am.Fu id (k.Ik P)
 | .lp x n k=>thn (Amn (wA P x) (k.Ik P) n) (k.Ik P)
def X(P:AK)(c:Code)(k:Kt)(st:St):Prop:=wA P c (k.Ik P) st
def J(P:AK)(k:Kt)(e:Exit)(st:St):Prop:=k.Ik P e st
def O(P:AK)(s:Bool)(ops rest:As)(k:Kt)(st:St):Prop:=Afu P s ops rest (k.Ik P .normal) st
def L(P:AK)(x:Code)(k:Kt)(n:Nat)(st:St):Prop:=Amn (wA P x) (k.Ik P) n st
def Af(P:AK)(s:Bool)(ops rest:As)(k:Kt)(o:Oper)(st:St)(r:Rs (D×Hp)):Prop:=
 r.OM (s=true/\VN P o (O P s ops rest k) st) λ x=>O P s ops rest k (({st with hp:=x.2}:St).put o.dst x.1)
def Cl(P:AK)(s:Bool)(ops rest:As)(k:Kt)(o:Oper)(st:St)(r:Rs (FuncId×Ah×Hp)):Prop:=
 r.OM (s=true/\VN P o (O P s ops rest k) st) λ x=>RI (s=true/\VN P o (O P s ops rest k) st) P x.2.2 x.1 x.2.1 (o.dst.getD 0) λ d a=>O P s ops rest k (({st with hp:=a}:St).put o.dst d)
def Do(P:AK)(s:Bool)(ops rest:As)(k:Kt)(o:Oper)(st:St):Prop:=YN P s o (Afu P s ops rest (k.Ik P .normal)) st
def Cn(P:AK)(x y:Code)(k:Kt)(st:St)(d:D):Prop:=match d with
 | .p (.bool b)=>WIf b (X P x k st) (X P y k st)
 | _=>False
inductive Gv where
 | yes | no | cond (b:Bool) | bad
def PO(st:St)(ops:As)(g:Option (Nat×Bool)):Gv:=
 match g with
 | none=> .yes
 | some (j,want)=>match ((ops[j]?).bind (·.dst)).bind (get st.env) with
   | some (.p (.bool b))=> .cond (b==want)
   | some (.Em [])=> .no
   | _=> .bad
def Gu(P:AK)(s:Bool)(ops rest:As)(k:Kt)(o:Oper)(st:St):Gv->Prop
 | .yes=>Do P s ops rest k o st
 | .no=>O P s ops rest k (st.put o.dst (.Em []))
 | .cond b=>WIf b (Do P s ops rest k o st) (O P s ops rest k (st.put o.dst (.Em [])))
 | .bad=>False
section
variable {P:AK} {s:Bool} {ops rest l:As} {k:Kt} {st:St} {x y:Code} {id i n:Nat} {o:Oper} {dst:Option Nat} {b:Bool}
theorem Bpx:X P .skip k st=J P k .normal st:=nd rfl
theorem Bl8:X P (.label i) k st=J P k .normal st:=nd rfl
theorem Bua:X P .ret k st=J P k .ret st:=nd rfl
theorem Bpz:X P (.exit i) k st=J P k (.exit i) st:=nd rfl
theorem Bpy:X P (.goto i) k st=J P k (.goto i) st:=nd rfl
theorem Bu9:X P (.seq x y) k st=X P x (.seq y k) st:=nd rfl
theorem Bq0(c:AM):X P (.cond c x y) k st=Cn P x y k st (ev st c):=nd rfl
theorem Bl9:X P (.block id x) k st=X P x (.Fu id k) st:=nd rfl
theorem Bif:X P (.region id l.toArray false) k st=O P true l l k st:=by
 unfold X O;simp[wA]
theorem Aui(n:Nat)(h:L P x k n st):X P (.loop x) k st:=⟨n,h⟩
theorem Am4:J P (.seq y k) .normal st=X P y k st:=nd rfl
theorem Bbw:J P (.seq y k) .ret st=J P k .ret st:=nd rfl
theorem Aur:J P (.seq y k) (.exit i) st=J P k (.exit i) st:=nd rfl
theorem Auq:J P (.seq y k) (.goto i) st=J P k (.goto i) st:=nd rfl
theorem Am6:J P (.Fu id k) .normal st=J P k .normal st:=nd rfl
theorem Bc0:J P (.Fu id k) .ret st=J P k .ret st:=nd rfl
theorem Aus:J P (.Fu id k) (.exit i) st=if i=id then J P k .normal st else J P k (.exit i) st:=nd rfl
theorem Ara:J P (.lp x n k) .normal st=L P x k n st:=nd rfl
theorem Bio:J P (.lp x n k) .ret st=J P k .ret st:=nd rfl
theorem Bby:J P (.lp x n k) (.exit i) st=J P k (.exit i) st:=nd rfl
theorem Buc:O P s ops [] k st=J P k .normal st:=nd rfl
theorem Bq5:O P s ops (o::rest) k st=Gu P s ops rest k o st (PO st ops o.guard):=by
 unfold O Gu PO;simp only[Afu,IV];cases o.guard with
 | none=>rfl
 | some g=>
   obtain ⟨j,want⟩:=g;simp only;cases ((ops[j]?).bind (·.dst)).bind (get st.env) with
   | none=>rfl
   | some d=>
     cases d with
     | p q=>cases q<;>rfl
     | Em cs=>cases cs<;>rfl
     | _=>rfl
theorem Bq8:Gu P s ops rest k o st .yes=Do P s ops rest k o st:=nd rfl
theorem Buf:Gu P s ops rest k o st .no=O P s ops rest k (st.put o.dst (.Em [])):=nd rfl
theorem Bla:Gu P s ops rest k o st (.cond true)=Do P s ops rest k o st:=by simp[Gu]
theorem Bir:Gu P s ops rest k o st (.cond false)=O P s ops rest k (st.put o.dst (.Em [])):=by simp[Gu]
theorem Buk:Do P s ops rest k o st=match EB o.op with
   | some (f,args)=>Cl P s ops rest k o st (KL st f args)
   | none=>Af P s ops rest k o st (Pt P st o):=by
 unfold Do YN Cl Af;cases EB o.op<;>rfl
theorem Bqp(p:Prop)(d:D)(h:Hp):Af P s ops rest k o st (.ret p (d,h))=(p/\O P s ops rest k (({st with hp:=h}:St).put o.dst d)):=nd rfl
theorem Blo(r a:Rs (D×Hp)):Af P s ops rest k o st (.split true r a)=Af P s ops rest k o st r:=by simp[Af,Rs.OM]
theorem Biw(r a:Rs (D×Hp)):Af P s ops rest k o st (.split false r a)=Af P s ops rest k o st a:=by simp[Af,Rs.OM]
theorem Bli:Cn P x y k st (.p (.bool true))=X P x k st:=by simp[Cn]
theorem Biv:Cn P x y k st (.p (.bool false))=X P y k st:=by simp[Cn]
theorem D2(a:b=true->X P x k st)(h2:b=false->X P y k st):Cn P x y k st (.p (.bool b)):=⟨a,h2⟩
def Sm(P:AK)(s:Bool)(ops rest:As)(k:Kt)(o:Oper)(st:St):Prop:=s=true/\VN P o (O P s ops rest k) st
def Ck(P:AK)(s:Bool)(ops rest:As)(k:Kt)(dst:Option Nat)(st:St)(f:AH)(ds:Ah)(h:Hp)(T:Aq)(S:Prop):Prop:=
 (C4 P f (Nd (idx T base) ds) (sub h (idx T base) base T) λ a r=>fresh (dst.getD 0) h a/\O P s ops rest k (({st with hp:=merge T (dst.getD 0) h a}:St).put dst (r.GB (back T (dst.getD 0)))))∨S
theorem Bql(p:Prop)(f:AH)(ds:Ah)(h:Hp):Cl P s ops rest k o st (.ret p (f,ds,h))=
   (p/\(F3 h (Fe ds)).Nodup/\((F3 h (Fe ds)).all λ id=>(get h id).isSome)=true/\Ck P s ops rest k o.dst st f ds h (F3 h (Fe ds)) (Sm P s ops rest k o st)):=nd rfl
def En(P:AK)(h0:Aq)(R:Hp->D->Prop)(e:Hp)(r:Rs Ah):Prop:=r.all λ a=>X3 h0 e (Akc a) R
theorem Bbz(a:List ResultVar)(h0:Aq)(R:Hp->D->Prop):J P (.fin a h0 R) .ret st=En P h0 R st.hp (Akk P st a):=nd rfl
theorem Am5(a:List ResultVar)(h0:Aq)(R:Hp->D->Prop):J P (.fin a h0 R) .normal st=En P h0 R st.hp (Akk P st a):=nd rfl
theorem Bqk(h0:Aq)(R:Hp->D->Prop)(a:Hp)(p:Prop)(ds:Ah):En P h0 R a (.ret p ds)=(p/\X3 h0 a (Akc ds) R):=nd rfl
theorem Bh6{h0:Aq}{a:Hp}{d:D}{R:Hp->D->Prop}(h:Sj h0 a d R):X3 h0 a d R:= .inl h
theorem Bar{h0:Aq}{a:Hp}{d:D}{R:Hp->D->Prop}(h:(Er a d).all λ x=>Sj h0 x.2 x.1 R):X3 h0 a d R:= .inr (ZA (k:=λ d h=>Sj h0 h d R) h)
theorem Dw{f:AH}{fn:Func}{code:Code}{args:Ah}{h:Hp}{R:Hp->D->Prop}(g:P.funcs[f]?=some fn)(hb:fn.body=some code)(Lf:Enters P f)
   (j:args.length<=fn.ntmps) (m:X P code (.fin fn.results.toList (h.map (·.1)) R) ⟨X2 0 args,h,fn.ntmps⟩):C4 P f args h R:=by
 refine Bc9 g hb Lf j (λ e st a=>?_) m;cases e<;>first
   | exact Acq a
   | exact a.elim
theorem C6{x:Int}(h0:-9223372036854775808<=x)(a:x<=9223372036854775807):IntKind.i64.wrap x=x:=by rw[IntKind.wrap_i64];omega
attribute [go_sem] Bpx Bl8 Bua Bpz Bpy Bu9 Bq0 Bl9 Bif Am4 Bbw Aur Auq Am6 Bc0 Aus Ara Bio Bby Buc Bq5 Bq8 Buf Bla Bir Buk Bqp Blo Biw Bli Biv Bql Bbz Am5 Bqk PO EB KL Pt NQ Rv MN FT Adf Ahx Ie Asu Aff Er JS Afh VK VL Akg Aae PG Ag2 Ag5 MH X1 Afb LX G7 Al3 HT Alc Kn Avt Av6 unR Bl0 Avw Tr V9 Ahl Akk Rs.bind Rs.and get ev St.put Dq Akc Nf UX D.one D.cells D.stored TK.isAgg chunk froze X2 J5 Ro Fe D.ids ghost Wo F3 Ii MQ AO.ids idx sub Au3
attribute [go_sem] IQ Bo9 TK.Bog TK.Bdt Blw D.Bds Aku ifD Adm asD asV Vw List.isEmpty_cons List.isEmpty_nil Bool.and_false Bool.false_and Option.some.injEq reduceCtorEq if_true if_false
attribute [go_sem] Aea T5 Qp npT D.Ag8 List.any_cons List.any_nil Bool.or_self Bool.false_or Bool.or_false Bool.true_or Bool.or_true Bool.false_eq_true
attribute [go_sem] List.getElem?_toArray List.size_toArray true_and and_true Option.getD_some Option.getD_none Nat.zero_add List.map_cons List.map_nil Option.bind_some Option.bind_none List.getElem?_cons_zero List.getElem?_cons_succ List.getElem?_nil List.length_cons List.length_nil List.cons_append List.nil_append List.append_nil List.all_cons List.all_nil Bool.and_self Option.isSome_some List.nodup_nil List.drop_zero List.take_zero List.drop_succ_cons List.take_succ_cons List.drop_nil List.take_nil beq_self_eq_true beq_true beq_false Bool.not_true Bool.not_false Option.map_some Option.map_none Bool.true_and Bool.and_true List.replicate_succ List.replicate_zero ne_eq not_false_eq_true not_true_eq_false and_self
end
end Go.Am
namespace Go.Am
open Go
def VC(o:Op):Bool:=
 match o with
 | .call c=>match c.callee with
   | .builtin .len | .builtin .min | .builtin .max=>true
   | _=>false
 | .alloc _ | .box _ _ | .store _ _ _ | .buildSlice _ _ _ | .makeSlice _ _ _ | .makeMap _ _ | .mapUpdate _ _ _ _=>false
 | _=>true
section
variable {P:AK} {c:Ctx} {st:St} {a:Act} {w:AI} {F:Nat->Prop} {M:Nat->Mb}
theorem Axf(n:Rel c st a w F M){o:Oper}(i:VC o.op=true){K:St->Prop}(h:YN P false o K st):
   ∃d v,K (st.put o.dst d)/\DR F w M (sg st.hp) d v/\(execOp a.eval o).run P w= .ok (.value v) w:=by
 have T:EB o.op=none:=by
   cases e:o.op<;>simp only[e,VC] at i<;>simp only[EB];rename_i cl;cases S:cl.callee<;>simp only[S] at i
   . exact (BU i).elim
   . rfl
   . rfl
 unfold YN at h;rw[T] at h;simp only at h;rcases Rs.Jr h with h | h
 case inr=>exact (BU h.1).elim
 unfold Pt at h;split at h
 . rename_i cl e;rw[e] at i;split at h
   . rename_i b hb;have g:=RJ (k:=λ d h=>K (({st with hp:=h}:St).put o.dst d)) h;simp only[VC,hb] at i;unfold T7 at g;generalize E:cl.args.toList.map (ev st)=l at g;split at g
     . obtain ⟨q,I6,rfl⟩:=Ao8 E;split at g
       case h_2=>exact g.elim
       rename_i t U;obtain ⟨d,v,f,h2,s⟩:=Ade (P:=P) g (Dj n q) cl.argTypes o.type U;exact ⟨d,v,f,h2,by simp[execOp,e,hb,resolve,invoke,builtin,I6,s]⟩
     . simp at i
     . simp at i
     . obtain ⟨d,W,v,Z,M',u,Qr,I,EY⟩:=T6 n e hb (RJ (k:=λ d h=>K (({st with hp:=h}:St).put o.dst d)) h);rename_i N x Q y;obtain ⟨q,r,I6,hx,B⟩:=MO E;obtain ⟨rfl,u⟩:=g;have f:=Dj n q;have h2:=Dj n r;rw[hx] at f;rw[B] at h2;generalize j:a.eval q=vx at f;generalize m:a.eval r=vy at h2;cases f with | p f=>cases f;cases h2 with | p h2=>
         cases h2;exact ⟨_,_,u,.p (.int _ _),by simp[execOp,e,hb,resolve,invoke,builtin,I6,j,m,run_min_int2]⟩
     . rename_i N x Q y;obtain ⟨q,r,I6,hx,B⟩:=MO E;obtain ⟨rfl,u⟩:=g;have f:=Dj n q;have h2:=Dj n r;rw[hx] at f;rw[B] at h2;generalize j:a.eval q=vx at f;generalize m:a.eval r=vy at h2;cases f with | p f=>cases f;cases h2 with | p h2=>
         cases h2;exact ⟨_,_,u,.p (.int _ _),by simp[execOp,e,hb,resolve,invoke,builtin,I6,j,m,run_max_int2]⟩
     . rename_i N x Q y Y z;obtain ⟨q,r,R,I6,hx,B,V⟩:=Adb E;obtain ⟨⟨rfl,rfl⟩,u⟩:=g;have f:=Dj n q;have h2:=Dj n r;have s:=Dj n R;rw[hx] at f;rw[B] at h2;rw[V] at s;generalize j:a.eval q=vx at f;generalize m:a.eval r=vy at h2;generalize H:a.eval R=vz at s;cases f with | p f=>cases f;cases h2 with | p h2=>cases h2;cases s with | p s=>
         cases s;exact ⟨_,_,u,.p (.int _ _),by simp[execOp,e,hb,resolve,invoke,builtin,I6,j,m,H,Anl]⟩
     . exact g.elim
   . exact h.elim
 . rename_i e;rw[e] at i;simp[VC] at i
 . rename_i e;rw[e] at i;simp[VC] at i
 . rename_i e;rw[e] at i;simp[VC] at i
 . rename_i e;rw[e] at i;simp[VC] at i
 . rename_i e;rw[e] at i;simp[VC] at i
 . rename_i e;rw[e] at i;simp[VC] at i
 . rename_i e;rw[e] at i;simp[VC] at i
 . have f:=Amq (Rs.Dh (λ d I=>I.2) (Rs.all_bind h));exact Ah1 n f
end
end Go.Am
namespace Go.Am
open Go
theorem A3{p:Prop}(h:p:=by simp[D.ids]):p:=h
mutual
theorem V6 {ρ:Nat->Option Nat}:∀{d:D},(∀id∈d.ids,ρ id=some id)->d.GB ρ=d
  | .p _,_=>rfl
  | .agg cs,h=>by simp only[D.GB];rw[Xv (cs:=cs) h]
  | .Em cs,h=>by simp only[D.GB];rw[Xv (cs:=cs) h]
  | .cl _,_=>rfl
  | .cz _,_=>rfl
  | .ref id _ _ _,h=>by simp only[D.GB];rw[h id A3]
  | .ptr id _,h=>by simp only[D.GB];rw[h id A3]
  | .pe _,_=>rfl
  | .ea id _ _ _,h=>by simp only[D.GB];rw[h id A3]
  | .fn f cs,h=>by simp only[D.GB];rw[Xv (cs:=cs) h]
  | .np,_=>rfl
  | .mv id,h=>by simp only[D.GB];rw[h id A3]
  | .E8 id _,h=>by simp only[D.GB];rw[h id A3]
  | .Sn id _ _,h=>by simp only[D.GB];rw[h id A3]
  | .nr id _ _ _,h=>by simp only[D.GB];rw[h id A3]
  | .WX,_=>rfl
  | .bad,_=>rfl
theorem Xv {ρ:Nat->Option Nat}:∀{cs:Ah},(∀id∈Fe cs,ρ id=some id)->Nd ρ cs=cs
  | [],_=>rfl
  | d::r,h=>by
    simp only[Nd];rw[V6 (d:=d) (λ id hi=>h id (by simp[Fe,hi])),Xv (cs:=r) (λ id hi=>h id (by simp[Fe,hi]))]
end
def LeE(env:Ar):Ar->Prop
 | []=>True
 | (t,d)::r=>get env t=some d/\LeE env r
def KQ(h:Hp):Hp->Prop
 | []=>True
 | (id,o)::r=>get h id=some o/\KQ h r
def JR:Ar->Aq
 | []=>[]
 | (_,d)::r=>d.ids++JR r
def JI:Hp->Aq
 | []=>[]
 | (_,o)::r=>o.ids++JI r
def ON(a:Hp):Hp->Prop
 | []=>True
 | (id,o)::r=>(base<=id->get a id=some o)/\ON a r
def Le(st Lt:St):Prop:=
 Lt.n=st.n/\LeE st.env Lt.env/\KQ st.hp Lt.hp/\((JR Lt.env++JI Lt.hp).all λ id=>(get Lt.hp id).isSome)=true/\ON Lt.hp st.hp
theorem LeE.spec{env}:∀{a:Ar},LeE env a->∀t d,get a t=some d->get env t=some d
 | [],_,t,d,h=>by simp[get] at h
 | (k,x)::r,b,t,d,h=>by
   rw[Dk] at h;split at h
   . rename_i e;subst e;cases h;exact b.1
   . exact b.2.spec t d h
theorem KQ.spec{h}:∀{b:Hp},KQ h b->∀id o,get b id=some o->get h id=some o
 | [],_,t,d,a=>by simp[get] at a
 | (k,x)::r,f,t,d,a=>by
   rw[Dk] at a;split at a
   . rename_i e;subst e;cases a;exact f.1
   . exact f.2.spec t d a
theorem ON.spec{b}:∀{h:Hp},ON b h->∀id o,base<=id->get h id=some o->get b id=some o
 | [],_,t,d,_,a=>by simp[get] at a
 | (k,x)::r,f,t,d,hb,a=>by
   rw[Dk] at a;split at a
   . rename_i e;subst e;cases a;exact f.1 hb
   . exact f.2.spec t d hb a
theorem Aeb:∀{env:Ar} {t:Nat} {d:D} {id:Nat},get env t=some d->id∈d.ids->id∈JR env
 | [],t,d,id,h,_=>by simp[get] at h
 | (k,x)::r,t,d,id,h,a=>by
   rw[Dk] at h;simp only[JR,BD];split at h
   . cases h;exact .inl a
   . exact .inr (Aeb h a)
theorem Zc:∀{h:Hp} {j:Nat} {o:AO} {id:Nat},get h j=some o->id∈o.ids->id∈JI h
 | [],t,d,id,h,_=>by simp[get] at h
 | (k,x)::r,t,d,id,h,a=>by
   rw[Dk] at h;simp only[JI,BD];split at h
   . cases h;exact .inl a
   . exact .inr (Zc h a)
theorem AO.V6{ρ}{o:AO}(h:∀id∈o.ids,ρ id=some id):o.GB ρ=o:=by
 cases o with
 | box cs e=>simp only[AO.GB];rw[Xv (cs:=cs) h]
 | YH t b a i c d=>simp only[AO.GB];rw[Go.Am.V6 (d:=d) h]
 | _=>rfl
theorem Wk.refl(st):Wk st st:=λ _ _ _ F M h=>⟨F,M,h⟩
theorem Wk.trans{a b c}(h:Wk a b)(h':Wk b c):Wk a c:=λ x y w F M f=>let ⟨F1,M1,e⟩:=h x y w F M f;h' x y w F1 M1 e
theorem Rel.forget{c}{st Lt}{a}{w}{F:Nat->Prop}{M}(l:Rel c st a w F M)(h:Le st Lt):Rel c Lt a w F M:=by
 have B:=l.keep.s0b;obtain ⟨E,y,m,Bp4,z⟩:=h;have VE:∀id,id∈JR Lt.env++JI Lt.hp->∃o,get Lt.hp id=some o:=λ id f=>Cj.1 (BB.1 Bp4 id f)
 let ρ:Nat->Option Nat:=λ id=>if (get Lt.hp id).isSome then some id else none
 have u:∀id j,ρ id=some j->sg st.hp id≠none->M j=M id/\sg Lt.hp j=sg st.hp id:=by
   intro id j p _;simp only[ρ] at p;split at p
   . rename_i H;simp only[Bo] at p;subst p;obtain ⟨o,e⟩:=Cj.1 H;refine ⟨rfl,?_⟩;simp[sg,e,m.spec _ _ e]
   . cases p
 have hid:∀id,(∃o,get Lt.hp id=some o)->ρ id=some id:=λ id ⟨o,e⟩=>by simp[ρ,e]
 constructor
 . intro t d s;have:=(l.env t d (y.spec t d s)).GB (M':=M) u;rwa[V6 (λ id f=>hid id (VE id (CB _ (Aeb s f))))] at this
 . rw[E];exact l.size
 . exact l.defers
 . constructor
   . intro id o e;have:=(l.heap.obj id o (m.spec id o e)).GB (M':=M) u;rwa[AO.V6 (λ i f=>hid i (VE i (List.mem_append_right _ (Zc e f))))] at this
   . intro id o WO N b e Us DE FI;exact l.heap.inj id o WO N b (m.spec _ _ e) (m.spec _ _ Us) DE FI
 . have g:=l.keep;refine ⟨g.os,g.tape,g.output,g.size,g.Up,g.F0,g.Fn,g.Fl,?_,?_,g.s0b⟩
   . rintro b ⟨id,o,e,DE⟩;exact g.own _ ⟨id,o,m.spec _ _ e,DE⟩
   . have Lb:=g.sgk;have Ds:∀id,c.s0 id≠none->sg st.hp id≠none->sg Lt.hp id=sg st.hp id:=by
       intro id v k;have hb:=B id v;cases e:get st.hp id with
       | none=>exact (k (by simp[sg,e])).elim
       | some o=>simp[sg,e,z.spec id o hb e]
     refine ⟨λ id f=>?_,λ id r n f=>?_,λ id r n K f=>?_⟩
     . obtain ⟨k,h2⟩:=Lb.1 id f;exact ⟨by rw[Ds id (by rw[f];simp) (by rw[k];simp)];exact k,h2⟩
     . obtain ⟨q,k,h2,x⟩:=Lb.2.1 id r n f;exact ⟨q,by rw[Ds id (by rw[f];simp) (by rw[k];simp)];exact k,h2,x⟩
     . obtain ⟨q,I,k,h2⟩:=Lb.2.2 id r n K f;exact ⟨q,I,by rw[Ds id (by rw[f];simp) (by rw[k];simp)];exact k,h2⟩
theorem Wk.forget{st Lt}(h:Le st Lt):Wk st Lt:=λ _ _ _ F M a=>⟨F,M,a.forget h⟩
section
variable {P:AK} {st:St} {x:Code} {k:Kt}
theorem Wk.nil{t q sz:Nat}(e:AG)(p:get st.env t=some (.cl []))(m:get st.hp q=none)(o:0<sz):Wk st ⟨(t,.ref q 0 0 0)::st.env,(q,.arr e sz [])::st.hp,st.n⟩:=by
 intro c a w F M f;obtain ⟨KI,l⟩:=f.Ad8 (e:=e) m o;refine ⟨F,_,⟨λ j d b=>?_,KI.size,KI.defers,KI.heap,KI.keep⟩⟩;rw[Dk] at b;split at b
 . rename_i i;subst i;cases b;have h2:=f.env _ _ p;generalize a.tmps.getD t undef=v at h2;cases h2 with | cl _ g _ _=>exact l g
 . exact KI.env j d b
theorem Bbv{Lt:St}{n:Nat}(e:Wk st Lt)(h:L P x k n Lt):L P x k n st:=by
 cases n with
 | zero=>exact h.elim
 | succ n=>obtain ⟨a,b,h2⟩:=h;exact ⟨a,e.trans b,h2⟩
theorem Dm{β:Type}(S:β->St)(I:β->Prop)(μ:β->Nat)(e:β)(h0:I e)(g:Wk st (S e))
   (f:∀b n,I b->(∀a st',I a->μ a<μ b->Wk st' (S a)->L P x k n st')->X P x (.lp x n k) (S b)):X P (.loop x) k st:=by
 have key:∀n b,I b->μ b<n->L P x k n (S b):=by
   intro n
   induction n with
   | zero=>intro b _ h;exact (B5 _ h).elim
   | succ n i=>
     intro b hb j;exact ⟨S b,Wk.refl _,f b n hb λ a st' Zf Dv Rx=>Bbv Rx (i a Zf AQ)⟩
 exact Aui _ (Bbv g (key (μ e+1) e h0 (Nat.lt_succ_self _)))
end
end Go.Am
namespace Go.Am
open Go
def Rt(h0:Aq)(a:Hp)(d:D)(R:Hp->D->Prop)(T:Aq):Prop:=
 T.Nodup/\(T.all λ id=>(get a id).isSome)=true/\(h0.all λ id=>base<=id&&T.contains id)=true/\(T.filter (· <base)).length<=base/\
 R (pick a (UW T) T) (d.GB (UW T))
theorem Bjh(h0)(hp)(d)(R:Hp->D->Prop):Sj h0 hp d R=Rt h0 hp d R (F3 hp (h0++d.ids)):=nd rfl
def Ep(h0:Aq)(R:Hp->D->Prop)(r:Rs (D×Hp)):Prop:=r.all λ x=>Sj h0 x.2 x.1 R
theorem Bqj(h0)(R:Hp->D->Prop)(p:Prop)(d)(h):Ep h0 R (.ret p (d,h))=(p/\Sj h0 h d R):=nd rfl
theorem Dt{h0}{a}{d}{R:Hp->D->Prop}(h:Ep h0 R (Er a d)):X3 h0 a d R:=Bar h
theorem DL{h0}{a}{d}{R:Hp->D->Prop}(h:Sj h0 a d R):X3 h0 a d R:=Bh6 h
theorem Bpi(h0)(hp)(x)(R:Hp->D->Prop):X3 h0 hp (.p x) R=Sj h0 hp (.p x) R:=by
 unfold X3;simp only[HM,bor,or_self]
attribute [go_sem] Bjh Bqj Bpi D.GB Nd
end Go.Am
end
