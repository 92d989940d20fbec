/- Texts of this proof, what it rests on, merged: part B. -/
import Derived.LoopN
import Derived.Scope
import Derived.Deep.Quiet
import Derived.Test.YtjbklifaekjilaaGreatDoorSvA
section
set_option linter.unusedVariables false
set_option linter.unusedSimpArgs false
namespace Go.Am
open Go
def bor (h:Hp) (d:D) (k:D→Hp→Prop):Prop:=
 match d with
 | .ref id off len N=>match get h id with
   | some (.arr _ _ es)=>N=es.length∧k (.p (.sl ((es.drop off).take len))) (froze h id)
   | some (.J3 _ es)=>N=es.length∧k (.p (.sl ((es.drop off).take len))) h
   | _=>False
 | .BS id n=>match get h id with
   | some (.BP _ _ sz kk rows none)=>n=rows.length∧k (.p (.sl (rows.map fun r=>[.sl r]))) (Ae h id (.Df (GM (.BP sz rows.length kk))))
   | _=>False
 | .cl es=>k (.p (.sl es)) h
 | d=>k d h
mutual
def Db (h:Hp) (d:D) (k:D→Hp→Prop):Prop:=
  match d with
  | .agg cs=>Of h cs fun ds h'=>k (.agg ds) h'
  | .BA cs=>Of h cs fun ds h'=>k (.BA ds) h'
  | d=>bor h d k
def Of:Hp→List D→(List D→Hp→Prop)→Prop
  | h,[],k=>k [] h
  | h,d::r,k=>Db h d fun x h'=>Of h' r fun xs ZF=>k (x::xs) ZF
end
def Agq (P:Program) (h:Hp) (t:TypeId) (x:D) (k:D→Prop):Prop:=
 match AT P t with
 | some ti=>match ti.k,x with
   | .string,.p (.str l)=>k (.p (.int .i64 l.length))
   | .slice _,.p (.sl es)=>k (.p (.int .i64 es.length))
   | .slice _,.cl es=>k (.p (.int .i64 es.length))
   | .slice _,.ref id _ len N=>(match sg h id with | some (.arr _ m)=>N=m | _=>False)∧k (.p (.int .i64 len))
   | .slice _,.BS _ n=>k (.p (.int .i64 n))
   | .slice _,.nr _ _ len _=>k (.p (.int .i64 len))
   | .array n _,_=>k (.p (.int .i64 n))
   | _,_=>False
 | none=>False
def Lc (P:Program) (st:St) (q:Nat) (b:Builtin) (ts:Array TypeId) (args:List D) (k:D→Hp→Prop):Prop:=
 match b,args with
 | .len,[x]=>match ts[0]? with
   | some t=>Agq P st.hp t x fun d=>k d st.hp
   | none=>False
 | .append,[s,x]=>match ts[0]?,ts[1]? with
   | some t,some t2=>X7 P st.hp q t t2 s x k
   | _,_=>False
 | .copy,[s,x]=>match ts[0]?,ts[1]? with
   | some t,some _=>XP P st.hp t s x k
   | _,_=>False
 | .min,[.p (.int k1 x),.p (.int k2 y)]=>k1=k2∧k (.p (.int k1 (if y<x then y else x))) st.hp
 | .max,[.p (.int k1 x),.p (.int k2 y)]=>k1=k2∧k (.p (.int k1 (if x<y then y else x))) st.hp
 | _,_=>False
inductive Rs (α:Type) where
 | fail
 | ret (p:Prop) (a:α)
 | split (b:Bool) (x y:Rs α)
def Rs.all {α:Type}:Rs α→(α→Prop)→Prop
 | .fail,_=>False
 | .ret p a,k=>p∧k a
 | .split b x y,k=>Uz b (x.all k) (y.all k)
def Rs.and {α:Type} (p:Prop):Rs α→Rs α
 | .fail=> .fail
 | .ret q a=> .ret (p∧q) a
 | .split b x y=> .split b (x.and p) (y.and p)
def Rs.bind {α β:Type}:Rs α→(α→Rs β)→Rs β
 | .fail,_=> .fail
 | .ret p a,f=>(f a).and p
 | .split b x y,f=> .split b (x.bind f) (y.bind f)
theorem Uz.mono {b:Bool} {x y x' y':Prop} (h:Uz b x y) (hx:x→x') (hy:y→y'):Uz b x' y':=⟨fun e=>hx (h.1 e),fun e=>hy (h.2 e)⟩
def Rs.HG {α:Type} (S:Prop):Rs α→(α→Prop)→Prop
 | .fail,_=>S
 | .ret p a,k=>p∧k a
 | .split b x y,k=>Uz b (x.HG S k) (y.HG S k)
theorem Rs.DL {α:Type} {S:Prop} {k:α→Prop}:∀{r:Rs α},r.HG S k→r.all k∨S
 | .fail,h=> .inr h
 | .ret p a,h=> .inl h
 | .split b x y,h=>by
   cases b
   · rcases Rs.DL (h.2 rfl) with h1 | h1
     · exact .inl ⟨fun e=>(Bool.false_ne_true e).elim,fun _=>h1⟩
     · exact .inr h1
   · rcases Rs.DL (h.1 rfl) with h1 | h1
     · exact .inl ⟨fun _=>h1,fun e=>(Bool.false_ne_true e.symm).elim⟩
     · exact .inr h1
theorem Rs.CI {α:Type} {p:Prop} {k:α→Prop}:∀{r:Rs α},(r.and p).all k→p∧r.all k
 | .fail,h=>h.elim
 | .ret q a,h=>⟨h.1.1,h.1.2,h.2⟩
 | .split b x y,h=>by
   have h1:b=true→p∧x.all k:=fun e=>Rs.CI (h.1 e);have h2:b=false→p∧y.all k:=fun e=>Rs.CI (h.2 e);refine ⟨?_,fun e=>(h1 e).2,fun e=>(h2 e).2⟩;cases b
   · exact (h2 rfl).1
   · exact (h1 rfl).1
theorem Rs.AE {α:Type} {k k':α→Prop} (hk:∀a,k a→k' a):∀{r:Rs α},r.all k→r.all k'
 | .fail,h=>h.elim
 | .ret q a,h=>⟨h.1,hk _ h.2⟩
 | .split b x y,h=>Uz.mono h (Rs.AE hk) (Rs.AE hk)
theorem Rs.all_bind {α β:Type} {f:α→Rs β} {k:β→Prop}:∀{r:Rs α},(r.bind f).all k→r.all (fun a=>(f a).all k)
 | .fail,h=>h.elim
 | .ret p a,h=>Rs.CI h
 | .split b x y,h=>Uz.mono h Rs.all_bind Rs.all_bind
def Tv (ti:TI) (cs:List D) (off:Nat):Rs D:=
 if ti.k.isAgg then .ret (off+ti.size≤cs.length) (.agg ((cs.drop off).take ti.size))
 else match cs[off]? with
   | some d=> .ret True d
   | none=> .fail
theorem OM {ti:TI} {cs:List D} {off:Nat} {k:D→Prop} (h:(Tv ti cs off).all k):Q3 ti cs off k:=by
 unfold Tv at h;unfold Q3;split at h
 · rename_i e;rw[if_pos e];exact h
 · rename_i e;rw[if_neg e];split at h<;>simp_all [Rs.all]
def ON (ti:TI) (cs:List Pd) (off:Nat):Rs D:=
 if ti.k.isAgg then .ret (off+ti.size≤cs.length) (.agg (((cs.drop off).take ti.size).map D.p))
 else match cs[off]? with
   | some d=> .ret True (.p d)
   | none=> .fail
theorem Mt {ti:TI} {cs:List Pd} {off:Nat} {k:D→Prop} (h:(ON ti cs off).all k):PE ti cs off k:=by
 unfold ON at h;unfold PE;split at h
 · rename_i e;rw[if_pos e];exact h
 · rename_i e;rw[if_neg e];split at h<;>simp_all [Rs.all]
def KD (P:Program) (h:Hp) (t:TypeId) (d:D):Rs D:=
 match AT P t,d with
 | some ti,.ptr id off=>match get h id with
   | some (.box cs _)=>Tv ti cs off
   | _=> .fail
 | some ti,.pe cs=>ON ti cs 0
 | some ti,.ea id i c N=>match get h id with
   | some (.arr _ _ es)=>(ON ti (es.getD i []) c).and (N=es.length)
   | some (.J3 _ es)=>(ON ti (es.getD i []) c).and (N=es.length)
   | _=> .fail
 | some ti,.J6 id i n=>match get h id with
   | some (.BP _ _ _ kk rows hole)=> .ret (n=rows.length∧hole≠some i∧ti.k.isAgg=false) (.nr id i (rows.getD i []).length kk)
   | _=> .fail
 | _,_=> .fail
theorem TC {P:Program} {h:Hp} {t:TypeId} {d:D} {k:D→Prop} (hh:(KD P h t d).all k):TD P h t d k:=by
 unfold KD at hh;unfold TD;split at hh
 · rename_i h1;simp only[h1];split at hh
   · rename_i h2;simp only[h2];exact OM hh
   · exact hh.elim
 · rename_i h1;simp only[h1];exact Mt hh
 · rename_i h1;simp only[h1];split at hh
   · rename_i h2;simp only[h2];exact ⟨(Rs.CI hh).1,Mt (Rs.CI hh).2⟩
   · rename_i h2;simp only[h2];exact ⟨(Rs.CI hh).1,Mt (Rs.CI hh).2⟩
   · exact hh.elim
 · rename_i h1;simp only[h1];split at hh
   · rename_i h2;simp only[h2];exact hh
   · exact hh.elim
 · exact hh.elim
def Ang (op:BinOp) (x y:D):Rs D:=
 match op,x,y with
 | .add,.p (.int k1 a),.p (.int k2 b)=> .ret (k1=k2) (.p (.int k1 (k1.wrap (a+b))))
 | .sub,.p (.int k1 a),.p (.int k2 b)=> .ret (k1=k2) (.p (.int k1 (k1.wrap (a - b))))
 | .mul,.p (.int k1 a),.p (.int k2 b)=> .ret (k1=k2) (.p (.int k1 (k1.wrap (a*b))))
 | .quo,.p (.int k1 a),.p (.int k2 b)=> .ret (k1=k2∧b≠0) (.p (.int k1 (k1.wrap (a.tdiv b))))
 | .rem,.p (.int k1 a),.p (.int k2 b)=> .ret (k1=k2∧b≠0) (.p (.int k1 (a.tmod b)))
 | .eql,.p (.int k1 a),.p (.int k2 b)=> .ret (k1=k2) (.p (.bool (decide (a=b))))
 | .neq,.p (.int k1 a),.p (.int k2 b)=> .ret (k1=k2) (.p (.bool (!decide (a=b))))
 | .lss,.p (.int k1 a),.p (.int k2 b)=> .ret (k1=k2) (.p (.bool (decide (a<b))))
 | .leq,.p (.int k1 a),.p (.int k2 b)=> .ret (k1=k2) (.p (.bool (decide (a≤b))))
 | .gtr,.p (.int k1 a),.p (.int k2 b)=> .ret (k1=k2) (.p (.bool (decide (b<a))))
 | .geq,.p (.int k1 a),.p (.int k2 b)=> .ret (k1=k2) (.p (.bool (decide (b≤a))))
 | .and,.p (.int k1 a),.p (.int k2 b)=> .ret (k1=k2) (.p (.int k1 (k1.wrap (BitVec.ofInt k1.bits a&&& BitVec.ofInt k1.bits b).toNat)))
 | .shr,.p (.int k1 a),.p (.int _ b)=> .ret (0≤b) (.p (.int k1 (a.fdiv (2 ^ (min b.toNat k1.bits)))))
 | .add,.p (.str a),.p (.str b)=> .ret (a.length+b.length≤maxLen) (.p (.str (a++b)))
 | .eql,.p (.str a),.p (.str b)=> .ret True (.p (.bool (decide (a=b))))
 | .neq,.p (.str a),.p (.str b)=> .ret True (.p (.bool (!decide (a=b))))
 | _,_,_=> .fail
theorem Akk {op:BinOp} {x y:D} {k:D→Prop} (h:(Ang op x y).all k):Anh op x y k:=by
 unfold Ang at h;split at h<;>first
   | exact h.elim
   | exact h
   | exact ⟨h.1.1,h.1.2,h.2⟩
   | exact h.2
def s7 (P:Program) (op:BinOp) (t:TypeId) (x y:D):Rs D:=
 match op,x,y with
 | .eql,.p (.bool a),.p (.bool b)=>(match AT P t with | some ⟨_,_,.bool,_⟩=> .ret True (.p (.bool (a==b))) | _=> .fail)
 | .neq,.p (.bool a),.p (.bool b)=>(match AT P t with | some ⟨_,_,.bool,_⟩=> .ret True (.p (.bool (!(a==b)))) | _=> .fail)
 | .eql,.agg xs,.agg ys=>(match RY P t xs ys with | some b=> .ret True (.p (.bool b)) | none=> .fail)
 | .neq,.agg xs,.agg ys=>(match RY P t xs ys with | some b=> .ret True (.p (.bool (!b))) | none=> .fail)
 | .eql,.p (.sl es),.cl []=>(match AT P t with | some ⟨_,_,.slice _,_⟩=> .ret (es≠[]) (.p (.bool false)) | _=> .fail)
 | .eql,.cl es,.cl []=>(match AT P t with | some ⟨_,_,.slice _,_⟩=> .ret True (.p (.bool es.isEmpty)) | _=> .fail)
 | op,x,y=>Ang op x y
theorem Aek {P:Program} {op:BinOp} {t:TypeId} {x y:D} {k:D→Prop} (h:(s7 P op t x y).all k):Ld P op t x y k:=by
 unfold s7 at h;split at h
 · split at h
   · rename_i h1;simp only[Ld,h1];exact h.2
   · exact h.elim
 · split at h
   · rename_i h1;simp only[Ld,h1];exact h.2
   · exact h.elim
 · split at h
   · rename_i h1;simp only[Ld,h1];exact h.2
   · exact h.elim
 · split at h
   · rename_i h1;simp only[Ld,h1];exact h.2
   · exact h.elim
 · split at h
   · rename_i h1;simp only[Ld,h1];exact h
   · exact h.elim
 · split at h
   · rename_i h1;simp only[Ld,h1];exact h.2
   · exact h.elim
 · rename_i n1 n2 n3 n4 n5 n6;have h2:=Akk h;unfold Ld;split
   · exact (n1 _ _ rfl rfl rfl).elim
   · exact (n2 _ _ rfl rfl rfl).elim
   · exact (n3 _ _ rfl rfl rfl).elim
   · exact (n4 _ _ rfl rfl rfl).elim
   · exact (n5 _ rfl rfl rfl).elim
   · exact (n6 _ rfl rfl rfl).elim
   · exact h2
def unR (op:UnOp) (x:D):Rs D:=
 match op,x with
 | .not,.p (.bool b)=> .ret True (.p (.bool (!b)))
 | .neg,.p (.int kd n)=> .ret True (.p (.int kd (kd.wrap (0 - n))))
 | _,_=> .fail
theorem Ald {op:UnOp} {x:D} {k:D→Prop} (h:(unR op x).all k):unD op x k:=by
 unfold unR at h;split at h<;>first | exact h.elim | exact h.2
def l8 (c a b:D):Rs D:=
 match c,a,b with
 | .p (.bool t),.p (.bool x),.p (.bool y)=> .ret True (.p (.bool (if t then x else y)))
 | .p (.bool t),a,b=> .split t (.ret True a) (.ret True b)
 | _,_,_=> .fail
theorem Aau {c x y:D} {k:D→Prop} (h:(l8 c x y).all k):WB c x y k:=by
 unfold l8 at h;unfold WB;split at h
 · exact h.2
 · rename_i t a b BC;split
   · rename_i e1 e2 e3;exact (BC _ _ rfl rfl).elim
   · rename_i e _;cases e;exact Uz.mono h (fun h=>h.2) (fun h=>h.2)
   · rename_i h1 _;exact (h1 _ rfl).elim
 · exact h.elim
def r9 (P:Program) (s d:TypeId) (x:D):Rs D:=
 match AT P s,AT P d,x with
 | some _,some ⟨_,_,.int kd,_⟩,.p (.int _ n)=> .ret True (.p (.int kd (kd.wrap n)))
 | some _,some ⟨_,_,.string,_⟩,.p (.str l)=> .ret True (.p (.str l))
 | some ⟨_,_,.slice e,_⟩,some ⟨_,_,.string,_⟩,.p (.sl es)=>match AT P e,Qk es with
   | some ⟨_,_,.int .u8,_⟩,some l=> .ret True (.p (.str l))
   | _,_=> .fail
 | _,_,_=> .fail
theorem Ae6 {P:Program} {s d:TypeId} {x:D} {k:D→Prop} (h:(r9 P s d x).all k):XR P s d x k:=by
 unfold r9 at h;unfold XR;split at h
 · rename_i h1 h2;simp only[h1,h2];exact h.2
 · rename_i h1 h2;simp only[h1,h2];exact h.2
 · rename_i h1 h2;simp only[h1,h2];split at h
   · rename_i h3 h4;simp only[h3,h4];exact h.2
   · exact h.elim
 · exact h.elim
def ZO (h:Hp) (id N:Nat):Prop:=match sg h id with | some (.arr _ m)=>N=m | _=>False
def Ez (P:Program) (t:TypeId) (x:D) (f:Nat) (h:Hp):Rs D:=
 match AT P t with
 | some ⟨_,_,.struct fs,_⟩=>match fs[f]? with
   | some (o,u)=>match AT P u with
     | some ti=>match x with
       | .ptr id off=> .ret (ti.size≠0) (.ptr id (off+o))
       | .pe cs=> .ret (ti.size≠0) (.pe (cs.drop o))
       | .ea id i c N=> .ret (ti.size≠0∧ZO h id N) (.ea id i (c+o) N)
       | _=> .fail
     | none=> .fail
   | none=> .fail
 | _=> .fail
theorem RV {P:Program} {t:TypeId} {x:D} {f:Nat} {h:Hp} {k:D→Prop} (hh:(Ez P t x f h).all k):HB P t x f h k:=by
 unfold Ez at hh;unfold HB;split at hh
 · rename_i h1;simp only[h1];split at hh
   · rename_i h2;simp only[h2];split at hh
     · rename_i h3;simp only[h3];split at hh
       · exact hh
       · exact hh
       · exact ⟨hh.1.1,hh.1.2,hh.2⟩
       · exact hh.elim
     · exact hh.elim
   · exact hh.elim
 · exact hh.elim
def Vs (P:Program) (t:TypeId) (x:D) (f:Nat):Rs D:=
 match AT P t with
 | some ⟨_,_,.struct fs,_⟩=>match fs[f]?,x with
   | some (o,u),.agg cs=>match AT P u with
     | some ti=>Tv ti cs o
     | none=> .fail
   | _,_=> .fail
 | _=> .fail
theorem ZJ {P:Program} {t:TypeId} {x:D} {f:Nat} {k:D→Prop} (hh:(Vs P t x f).all k):RU P t x f k:=by
 unfold Vs at hh;unfold RU;split at hh
 · rename_i h1;simp only[h1];split at hh
   · rename_i h2;simp only[h2];split at hh
     · rename_i h3;simp only[h3];exact OM hh
     · exact hh.elim
   · exact hh.elim
 · exact hh.elim
def Ew (P:Program) (t:TypeId) (x i:D) (h:Hp):Rs D:=
 match AT P t,i with
 | some ⟨_,_,.slice e,_⟩,.p (.int _ n)=>match AT P e with
   | some ti=>match x with
     | .p (.sl es)=> .ret ((0≤n∧n<es.length)∧(es.getD n.toNat []).length=ti.size) (.pe (es.getD n.toNat []))
     | .cl es=> .ret ((0≤n∧n<es.length)∧(es.getD n.toNat []).length=ti.size) (.pe (es.getD n.toNat []))
     | .ref id off len N=>match sg h id with
       | some (.arr sz m)=> .ret ((0≤n∧n<len)∧sz=ti.size∧N=m) (.ea id (off+n.toNat) 0 N)
       | _=> .fail
     | .BS id N=> .ret ((0≤n∧n<N)∧ti.size=1) (.J6 id n.toNat N)
     | _=> .fail
   | none=> .fail
 | some ⟨_,_,.array m e,_⟩,.p (.int _ n)=>match AT P e,x with
   | some ti,.ptr id off=> .ret (0≤n∧n<m) (.ptr id (off+n.toNat*ti.size))
   | some ti,.pe cs=> .ret (0≤n∧n<m) (.pe (cs.drop (n.toNat*ti.size)))
   | _,_=> .fail
 | _,_=> .fail
theorem Rr {P:Program} {t:TypeId} {x i:D} {h:Hp} {k:D→Prop} (hh:(Ew P t x i h).all k):Hr P t x i h k:=by
 unfold Ew at hh;unfold Hr;split at hh
 · rename_i h1;simp only[h1];split at hh
   · rename_i h2;simp only[h2];split at hh
     · exact ⟨hh.1.1,hh.1.2,hh.2⟩
     · exact ⟨hh.1.1,hh.1.2,hh.2⟩
     · split at hh
       · rename_i h3;simp only[h3];exact ⟨hh.1.1,hh.1.2.1,hh.1.2.2,hh.2⟩
       · exact hh.elim
     · exact ⟨hh.1.1,hh.1.2,hh.2⟩
     · exact hh.elim
   · exact hh.elim
 · rename_i h1;simp only[h1];split at hh
   · rename_i h2;simp only[h2];exact hh
   · rename_i h2;simp only[h2];exact hh
   · exact hh.elim
 · exact hh.elim
def Vc (P:Program) (t:TypeId) (x i:D):Rs D:=
 match AT P t,x,i with
 | some ⟨_,_,.string,_⟩,.p (.str l),.p (.int _ n)=> .ret (0≤n∧n<l.length) (.p (.int .u8 (l.getD n.toNat 0).toNat))
 | some ⟨_,_,.array m e,_⟩,.agg cs,.p (.int _ n)=>match AT P e with
   | some ti=>(Tv ti cs (n.toNat*ti.size)).and (0≤n∧n<m)
   | none=> .fail
 | _,_,_=> .fail
theorem Zh {P:Program} {t:TypeId} {x i:D} {k:D→Prop} (hh:(Vc P t x i).all k):Rq P t x i k:=by
 unfold Vc at hh;unfold Rq;split at hh
 · rename_i h1;simp only[h1];exact hh
 · rename_i h1;simp only[h1];split at hh
   · rename_i h2;simp only[h2];exact ⟨(Rs.CI hh).1,OM (Rs.CI hh).2⟩
   · exact hh.elim
 · exact hh.elim
def Cu (st:St) (o:Option Operand) (Vx:Int):Rs Int:=
 match o with
 | none=> .ret True Vx
 | some x=>match ev st x with
   | .p (.int _ n)=> .ret True n
   | _=> .fail
theorem ZT {st:St} {o:Option Operand} {n:Int} {k:Int→Prop} (h:(Cu st o n).all k):C8 st o n k:=by
 unfold Cu at h;unfold C8;split at h
 · exact h.2
 · split at h
   · rename_i h1;simp only[h1];exact h.2
   · exact h.elim
def I1 (n:Nat) (es:List (List Pd)):Prop:=∀e∈es,e.length=n
theorem I1.get {n:Nat} {es:List (List Pd)} (h:I1 n es):∀(i:Nat) e,es[i]?=some e→e.length=n:=fun _ e he=>h e (List.mem_of_getElem? he)
def FA (P:Program) (st:St) (t:TypeId) (x:D) (lo hi mx:Option Operand):Rs D:=
 match AT P t,x with
 | some ⟨_,_,.string,_⟩,.p (.str l)=>(Cu st lo 0).bind fun a=>(Cu st hi l.length).bind fun b=>
     .ret (mx.isNone=true∧(0≤a∧a≤b∧b≤l.length)) (.p (.str ((l.take b.toNat).drop a.toNat)))
 | some ⟨_,_,.slice e,_⟩,x=>match AT P e with
   | some ti=>match x with
     | .p (.sl es)=>match mx with
       | none=>(Cu st lo 0).bind fun a=>(Cu st hi es.length).bind fun b=> .ret ((0≤a∧a≤b∧b≤es.length)∧I1 ti.size es) (.p (.sl ((es.take b.toNat).drop a.toNat)))
       | some m=>(Cu st lo 0).bind fun a=>(Cu st hi es.length).bind fun b=>(Cu st (some m) 0).bind fun c=>
           .ret ((0≤a∧a≤b∧b=c∧c≤es.length)∧I1 ti.size es∧hi.isSome=true) (.cz ((es.take b.toNat).drop a.toNat))
     | .ref id off len N=>match sg st.hp id with
       | some (.arr sz m)=>(Cu st lo 0).bind fun a=>(Cu st hi len).bind fun b=>
           .ret (mx.isNone=true∧sz=ti.size∧(0≤a∧a≤b∧b≤len)∧N=m) (.ref id (off+a.toNat) (b - a).toNat N)
       | _=> .fail
     | _=> .fail
   | none=> .fail
 | _,_=> .fail
theorem bd {st:St} {o:Option Operand} {n:Int} {f:Int→Rs D} {k:D→Prop} {k':Int→Prop} (h:((Cu st o n).bind f).all k) (hf:∀a,(f a).all k→k' a):C8 st o n k':=
 ZT (Rs.AE hf (Rs.all_bind h))
theorem Pq {st:St} {o:Option Operand} {n:Int} {q:Prop} {k:Int→Prop} (h:C8 st o n (fun a=>q∧k a)):q∧C8 st o n k:=by
 unfold C8 at*;cases o with
 | none=>exact h
 | some x=>
   simp only at h ⊢;split at h
   · rename_i h1;exact h
   · exact h.elim
theorem P3 {st:St} {o:Option Operand} {n:Int} {k k':Int→Prop} (hk:∀a,k a→k' a) (h:C8 st o n k):C8 st o n k':=by
 unfold C8 at*;split at h
 · exact hk _ h
 · split at h
   · exact hk _ h
   · exact h.elim
theorem YK {P:Program} {st:St} {t:TypeId} {x:D} {lo hi mx:Option Operand} {k:D→Prop} (hh:(FA P st t x lo hi mx).all k):QS P st t x lo hi mx k:=by
 unfold FA at hh;unfold QS;split at hh
 · rename_i h1;simp only[h1];refine Pq (bd hh fun a h=>Pq (bd h fun b h=>?_));exact ⟨h.1.1,h.1.2,h.2⟩
 · rename_i h1;split at hh
   case h_2=>exact hh.elim
   rename_i h2;split at hh
   · rw[h1];simp only[h2];split at hh
     · exact bd hh fun a h=>bd h fun b h=>⟨h.1.1,h.1.2.get,h.2⟩
     · exact bd hh fun a h=>bd h fun b h=>bd h fun c h=>⟨h.1.1,h.1.2.1.get,h.1.2.2,h.2⟩
   · rw[h1];simp only[h2];split at hh
     · rename_i h3;simp only[h3];have h4:=bd hh fun a h=>bd h fun b h=>(⟨h.1.1,h.1.2.1,h.1.2.2.1,h.1.2.2.2,h.2⟩:mx.isNone=true∧_∧_∧_∧_);have h5:=Pq (P3 (fun a h=>Pq h) h4);have h6:=Pq (P3 (fun a h=>Pq h) h5.2);exact ⟨h5.1,h6.1,h6.2⟩
     · exact hh.elim
   · exact hh.elim
 · exact hh.elim
def Sl (P:Program) (st:St) (t:TypeId) (parts:List (Nat×Operand)):Rs D:=
 match AT P t with
 | some ⟨_,_,.struct fs,z⟩=>
   match Jf P fs,z with
   | some pl,.agg zs=>match Ee (fun i=>pl[i]?) zs (parts.map fun q=>(q.1,ev st q.2)) with
     | some cs=> .ret True (.agg cs)
     | none=> .fail
   | _,_=> .fail
 | some ⟨_,_,.array _ e,z⟩=>
   match AT P e,z with
   | some ti,.agg zs=>match Ee (fun i=>some (i*ti.size,ti.size)) zs (parts.map fun q=>(q.1,ev st q.2)) with
     | some cs=> .ret True (.agg cs)
     | none=> .fail
   | _,_=> .fail
 | _=> .fail
theorem ZR {P:Program} {st:St} {t:TypeId} {parts:List (Nat×Operand)} {k:D→Prop} (hh:(Sl P st t parts).all k):Sn P st t parts k:=by
 unfold Sl at hh;unfold Sn;split at hh
 · rename_i h1;simp only[h1];split at hh
   · rename_i h2;simp only[h2];split at hh
     · rename_i h3;simp only[h3];exact hh.2
     · exact hh.elim
   · exact hh.elim
 · rename_i h1;simp only[h1];split at hh
   · rename_i h2;simp only[h2];split at hh
     · rename_i h3;simp only[h3];exact hh.2
     · exact hh.elim
   · exact hh.elim
 · exact hh.elim
def N1 (x:D) (i:Nat):Rs D:=
 match x with
 | .BA cs=>match cs[i]? with
   | some d=> .ret True d
   | none=> .fail
 | _=> .fail
theorem Vu {x:D} {i:Nat} {k:D→Prop} (hh:(N1 x i).all k):K1 x i k:=by
 unfold N1 at hh;unfold K1;split at hh
 · split at hh
   · rename_i h1;simp only[h1];exact hh.2
   · exact hh.elim
 · exact hh.elim
def Jk (P:Program) (h:Hp) (t:TypeId) (x i:D) (ok:Bool):Rs D:=
 match mapOf P t,x,i with
 | some (kk,z),.mv id,.p key=>match get h id with
   | some (.mp l)=> .ret (kk.fit key=true∧OQ key l) (CS z ok (Rd key l))
   | _=> .fail
 | _,_,_=> .fail
theorem WK {P:Program} {h:Hp} {t:TypeId} {x i:D} {ok:Bool} {k:D→Prop} (hh:(Jk P h t x i ok).all k):NA P h t x i ok k:=by
 unfold Jk at hh;unfold NA;split at hh
 · rename_i h0;simp only[h0];split at hh
   · rename_i h1;simp only[h1];exact hh
   · exact hh.elim
 · exact hh.elim
def Ic (P:Program) (h:Hp) (t:TypeId) (m i v:D):Rs Hp:=
 match mapOf P t,m,i,v with
 | some (kk,_),.mv id,.p key,.p x=>match get h id with
   | some (.mp l)=> .ret (kk.fit key=true∧OQ key l∧x.flat=true) (Ae h id (.mp (IB key x l)))
   | _=> .fail
 | _,_,_,_=> .fail
theorem Y2 {P:Program} {h:Hp} {t:TypeId} {m i v:D} {k:Hp→Prop} (hh:(Ic P h t m i v).all k):Rf P h t m i v k:=by
 unfold Ic at hh;unfold Rf;split at hh
 · rename_i h0;simp only[h0];split at hh
   · rename_i h1;simp only[h1];exact hh
   · exact hh.elim
 · exact hh.elim
def H7 (P:Program) (st:St) (op:Op):Rs D:=
 match op with
 | .move x | .assign x=> .ret True (ev st x)
 | .pick c a b=>l8 (ev st c) (ev st a) (ev st b)
 | .binOp op t x y _=>s7 P op t (ev st x) (ev st y)
 | .unOp op _ x=>unR op (ev st x)
 | .nilCheck x=>match ev st x with
   | .ptr id off=> .ret True (.ptr id off)
   | .pe cs=> .ret True (.pe cs)
   | .ea id i c N=> .ret (ZO st.hp id N) (.ea id i c N)
   | _=> .fail
 | .convert s d x=>r9 P s d (ev st x)
 | .build t parts=>Sl P st t parts.toList
 | .load t a=>KD P st.hp t (ev st a)
 | .slice t x lo hi mx=>FA P st t (ev st x) lo hi mx
 | .fieldAddr t x f=>Ez P t (ev st x) f st.hp
 | .field t x f=>Vs P t (ev st x) f
 | .indexAddr t x i=>Ew P t (ev st x) (ev st i) st.hp
 | .index t x i=>Vc P t (ev st x) (ev st i)
 | .extract t i=>N1 (ev st t) i
 | .lookup t x i ok=>Jk P st.hp t (ev st x) (ev st i) ok
 | .makeFunc (.func f) first cap=> .ret (first.size=0) (.fn f (cap.toList.map (ev st)))
 | _=> .fail
theorem Wd {P:Program} {st:St} {op:Op} {k:D→Prop} (hh:(H7 P st op).all k):vOp P st op k:=by
 unfold H7 at hh;unfold vOp;split at hh
 · exact hh.2
 · exact hh.2
 · exact Aau hh
 · exact Aek hh
 · exact Ald hh
 · split at hh
   · rename_i h1;simp only[h1];exact hh.2
   · rename_i h1;simp only[h1];exact hh.2
   · rename_i h1;simp only[h1];exact hh
   · exact hh.elim
 · exact Ae6 hh
 · exact ZR hh
 · exact TC hh
 · exact YK hh
 · exact RV hh
 · exact ZJ hh
 · exact Rr hh
 · exact Zh hh
 · exact Vu hh
 · exact WK hh
 · exact hh
 · exact hh.elim
def SP (h:Hp) (d:D):Rs (Pd×Hp):=
 match d with
 | .p x=> .ret True (x,h)
 | .cl es=> .ret True (.sl es,h)
 | .cz es=> .ret True (.sl es,h)
 | .ref id off len N=>match get h id with
   | some (.arr _ _ es)=> .ret (N=es.length) (.sl ((es.drop off).take len),froze h id)
   | some (.J3 _ es)=> .ret (N=es.length) (.sl ((es.drop off).take len),h)
   | _=> .fail
 | .BS id n=>match get h id with
   | some (.BP _ _ sz kk rows none)=> .ret (n=rows.length) (.sl (rows.map fun r=>[.sl r]),Ae h id (.Df (GM (.BP sz rows.length kk))))
   | _=> .fail
 | _=> .fail
theorem Ag5 {h:Hp} {d:D} {k:Pd→Hp→Prop} (hh:(SP h d).all (fun x=>k x.1 x.2)):Iw h d k:=by
 unfold SP at hh;unfold Iw;split at hh
 · exact hh.2
 · exact hh.2
 · exact hh.2
 · split at hh
   · rename_i h1;simp only[h1];exact hh
   · rename_i h1;simp only[h1];exact hh
   · exact hh.elim
 · split at hh
   · rename_i h1;simp only[h1];exact hh
   · exact hh.elim
 · exact hh.elim
def F4:Hp→List D→Rs (List Pd×Hp)
 | h,[]=> .ret True ([],h)
 | h,d::r=>(SP h d).bind fun x=>(F4 x.2 r).bind fun y=> .ret True (x.1::y.1,y.2)
theorem Tu {h:Hp} {d:D} {k k':Pd→Hp→Prop} (hk:∀x h,k x h→k' x h) (hh:Iw h d k):Iw h d k':=by
 unfold Iw at*;cases d with
 | p x=>exact hk _ _ hh
 | cl es=>exact hk _ _ hh
 | cz es=>exact hk _ _ hh
 | ref id off len N=>
   simp only at hh ⊢;split at hh
   · exact ⟨hh.1,hk _ _ hh.2⟩
   · exact ⟨hh.1,hk _ _ hh.2⟩
   · exact hh.elim
 | BS id n=>
   simp only at hh ⊢;split at hh
   · exact ⟨hh.1,hk _ _ hh.2⟩
   · exact hh.elim
 | _=>exact hh
theorem Jd:∀{ds:List D} {h:Hp} {k k':List Pd→Hp→Prop},(∀x h,k x h→k' x h)→Fp h ds k→Fp h ds k'
 | [],h,k,k',hk,hh=>hk _ _ hh
 | d::r,h,k,k',hk,hh=>Tu (fun x h' h1=>Jd (fun xs ZF h2=>hk _ _ h2) h1) hh
theorem Ts:∀{ds:List D} {h:Hp} {k:List Pd→Hp→Prop},(F4 h ds).all (fun x=>k x.1 x.2)→Fp h ds k
 | [],h,k,hh=>hh.2
 | d::r,h,k,hh=>by
   simp only[F4] at hh;exact Ag5 (Rs.AE (fun x h1=>Ts (Rs.AE (fun y h2=>h2.2) (Rs.all_bind h1))) (Rs.all_bind hh))
theorem Ms {ds:List D} {h:Hp} {K:List Pd×Hp→Prop} (hh:(F4 h ds).all K):Fp h ds (fun x h=>K (x,h)):=Ts (k:=fun x h=>K (x,h)) hh
def QO (h:Hp) (d:D):Rs (List (List Pd)):=
 match d with
 | .p (.sl ys)=> .ret True ys
 | .p (.str l)=> .ret True (Co l)
 | .cl ys=> .ret True ys
 | .ref id off len N=>match get h id with
   | some (.arr _ _ es)=> .ret (N=es.length) ((es.drop off).take len)
   | some (.J3 _ es)=> .ret (N=es.length) ((es.drop off).take len)
   | _=> .fail
 | _=> .fail
theorem Wo {h:Hp} {d:D} {k:List (List Pd)→Prop} (hh:(QO h d).all k):Kb h d k:=by
 unfold QO at hh;unfold Kb;split at hh
 · exact hh.2
 · exact hh.2
 · exact hh.2
 · split at hh
   · rename_i h1;simp only[h1];exact hh
   · rename_i h1;simp only[h1];exact hh
   · exact hh.elim
 · exact hh.elim
def UJ {α:Type}:Nat→Rs α→Rs α
 | 0,r=>r
 | _+1,_=> .fail
theorem Mj {α:Type} {n:Nat} {r:Rs α} {k:α→Prop} (h:(UJ n r).all k):n=0∧r.all k:=by
 cases n with
 | zero=>exact ⟨rfl,h⟩
 | succ n=>exact h.elim
theorem Tg {α:Type} {n:Nat} {r:Rs α} {k:α→Prop} (h0:n=0) (h:r.all k):(UJ n r).all k:=by
 subst h0;exact h
def Sv (P:Program) (h:Hp) (q:Nat) (t t2:TypeId) (s x:D):Rs (D×Hp):=
 match AT P t,AT P t2 with
 | some ⟨_,_,.slice e,_⟩,some ti2=>match AT P e with
   | some ti=>(QO h x).bind fun ys=>match s with
     | .cl es=> .ret ((match ti2.k with | .slice _=>True | .string=>True | _=>False)∧I1 ti.size ys∧0<ti.size∧ti.zero.cells.length=ti.size∧
           get h q=none∧(es=[]∨ys≠[])∧I1 ti.size es∧(es.length+ys.length)*ti.bytes≤140737488355328∧es.length+ys.length≤140737488355328)
         (.ref q 0 (es++ys).length (es++ys).length,(q,.arr e ti.size (es++ys))::h)
     | .cz es=> .ret ((match ti2.k with | .slice _=>True | .string=>True | _=>False)∧I1 ti.size ys∧0<ti.size∧ti.zero.cells.length=ti.size∧
           get h q=none∧ys≠[]∧I1 ti.size es∧(es.length+ys.length)*ti.bytes≤140737488355328∧es.length+ys.length≤140737488355328)
         (.ref q 0 (es++ys).length (es++ys).length,(q,.arr e ti.size (es++ys))::h)
     | .ref id off len N=>UJ off (match get h id with
       | some (.arr e' sz es)=> .ret ((match ti2.k with | .slice _=>True | .string=>True | _=>False)∧I1 ti.size ys∧0<ti.size∧ti.zero.cells.length=ti.size∧
           off=0∧N=es.length∧len=es.length∧e'=e∧sz=ti.size∧(es.length+ys.length)*ti.bytes≤140737488355328∧es.length+ys.length≤140737488355328)
         (.ref id 0 (es++ys).length (es++ys).length,Ae h id (.arr e sz (es++ys)))
       | _=> .fail)
     | .nr id i len kk=>match get h id with
       | some (.BP t3 e' sz k2 rows none)=> .ret ((match ti2.k with | .slice _=>True | .string=>True | _=>False)∧I1 ti.size ys∧0<ti.size∧ti.zero.cells.length=ti.size∧
           (e'=e∧sz=ti.size∧kk=k2∧len=(rows.getD i []).length∧i<rows.length∧get h q=none)∧(len+ys.length)*ti.bytes≤140737488355328∧len+ys.length≤140737488355328)
         (.ref q 0 (rows.getD i []++ys).length (rows.getD i []++ys).length,(q,.arr e sz (rows.getD i []++ys))::Ae h id (.BP t3 e' sz (k2+1) rows (some i)))
       | _=> .fail
     | _=> .fail
   | none=> .fail
 | _,_=> .fail
theorem Th {h:Hp} {d:D} {k k':List (List Pd)→Prop} (hk:∀x,k x→k' x) (hh:Kb h d k):Kb h d k':=by
 unfold Kb at*;split at hh
 · exact hk _ hh
 · exact hk _ hh
 · exact hk _ hh
 · split at hh
   · exact ⟨hh.1,hk _ hh.2⟩
   · exact ⟨hh.1,hk _ hh.2⟩
   · exact hh.elim
 · exact hh.elim
theorem Afm {h:Hp} {d:D} {q:Prop} {k:List (List Pd)→Prop} (hh:Kb h d (fun ys=>q∧k ys)):q∧Kb h d k:=by
 unfold Kb at*;split at hh
 · exact hh
 · exact hh
 · exact hh
 · split at hh
   · exact ⟨hh.2.1,hh.1,hh.2.2⟩
   · exact ⟨hh.2.1,hh.1,hh.2.2⟩
   · exact hh.elim
 · exact hh.elim
theorem X6 {P:Program} {h:Hp} {q:Nat} {t t2:TypeId} {s x:D} {k:D→Hp→Prop} (hh:(Sv P h q t t2 s x).all (fun x=>k x.1 x.2)):X7 P h q t t2 s x k:=by
 unfold Sv at hh;unfold X7;split at hh
 case h_2=>exact hh.elim
 rename_i h1 h2;simp only[h1,h2];split at hh
 case h_2=>exact hh.elim
 rename_i h3;simp only[h3];refine Afm (Th (fun ys hy=>?_) (Wo (Rs.all_bind hh)));split at hy
 · obtain ⟨⟨a1,a2,a3,a4,a5,a6,a7,a8,a9⟩,hk⟩:=hy;exact ⟨a1,a2,a3,a4,a5,a6,a7,a8,a9,hk⟩
 · obtain ⟨⟨a1,a2,a3,a4,a5,a6,a7,a8,a9⟩,hk⟩:=hy;exact ⟨a1,a2,a3,a4,a5,a6,a7,a8,a9,hk⟩
 · have hy:=(Mj hy).2;split at hy
   · rename_i h4;obtain ⟨⟨a1,a2,a3,a4,a5,a6,a7,a8,a9,a10,a11⟩,hk⟩:=hy;simp only[h4];exact ⟨a1,a2,a3,a4,a5,a6,a7,a8,a9,a10,a11,hk⟩
   · exact hy.elim
 · split at hy
   · rename_i h4;obtain ⟨⟨a1,a2,a3,a4,a5,a6,a7⟩,hk⟩:=hy;simp only[h4];exact ⟨a1,a2,a3,a4,a5,a6,a7,hk⟩
   · exact hy.elim
 · exact hy.elim
def Dv (h:Hp) (id i n:Nat) (v:D):Rs Hp:=
 match v with
 | .ref q off len N=>match get h q,get h id with
   | some (.arr e2 M3 es),some (.BP t e sz k2 rows hole)=> .ret (off=0∧e2=e∧M3=sz∧N=es.length∧len=N∧n=rows.length∧(hole=none∨hole=some i))
       (Ae (Ae h id (.BP t e sz (Apn hole k2) (rows.set i es) none)) q (.Df (GM (.arr sz (es.length+1)))))
   | _,_=> .fail
 | _=> .fail
theorem SR {h:Hp} {id i n:Nat} {v:D} {k:Hp→Prop} (hh:(Dv h id i n v).all k):Kw h id i n v k:=by
 unfold Dv at hh;unfold Kw;split at hh
 · split at hh
   · rename_i h1 h2;simp only[h1,h2];exact hh
   · exact hh.elim
 · exact hh.elim
def H9 (P:Program) (h:Hp) (t:TypeId) (a v:D):Rs Hp:=
 match AT P t with
 | some ti=>match v.stored with
   | some cs=>match a with
     | .ptr id off=>match get h id with
       | some (.box bs ty)=> .ret (cs.length=ti.size∧off+cs.length≤bs.length) (Ae h id (.box (bs.take off++cs++bs.drop (off+cs.length)) (ID ty (bs.take off++cs++bs.drop (off+cs.length)))))
       | _=> .fail
     | .ea id i c N=>(F4 h cs).bind fun y=>match get y.2 id with
       | some (.arr e sz es)=> .ret (cs.length=ti.size∧N=es.length∧c+y.1.length≤sz) (Ae y.2 id (.arr e sz (es.set i ((es.getD i []).take c++y.1++(es.getD i []).drop (c+y.1.length)))))
       | _=> .fail
     | .J6 id i n=>(Dv h id i n v).and (cs.length=ti.size)
     | _=> .fail
   | none=> .fail
 | none=> .fail
theorem EE:∀{ds:List D} {h:Hp} {q:Prop} {k:List Pd→Hp→Prop},Fp h ds (fun x h=>q∧k x h)→q∧Fp h ds k
 | [],h,q,k,hh=>hh
 | d::r,h,q,k,hh=>by
   have h1:Iw h d (fun x h'=>q∧Fp h' r fun xs ZF=>k (x::xs) ZF):=Tu (fun x h' h2=>EE h2) hh;simp only[Fp];unfold Iw at h1 ⊢;cases d with
   | p x=>exact h1
   | cl es=>exact h1
   | cz es=>exact h1
   | ref id off len N=>
     simp only at h1 ⊢;split at h1
     · rename_i h2;exact ⟨h1.2.1,h1.1,h1.2.2⟩
     · rename_i h2;exact ⟨h1.2.1,h1.1,h1.2.2⟩
     · exact h1.elim
   | BS id n=>
     simp only at h1 ⊢;split at h1
     · rename_i h2;exact ⟨h1.2.1,h1.1,h1.2.2⟩
     · exact h1.elim
   | _=>exact h1.elim
theorem YH {P:Program} {h:Hp} {t:TypeId} {a v:D} {k:Hp→Prop} (hh:(H9 P h t a v).all k):QM P h t a v k:=by
 unfold H9 at hh;unfold QM;split at hh
 case h_2=>exact hh.elim
 rename_i h1;simp only[h1];split at hh
 case h_2=>exact hh.elim
 rename_i h2;simp only[h2];split at hh
 · split at hh
   · rename_i h3;simp only[h3];exact ⟨hh.1.1,hh.1.2,hh.2⟩
   · exact hh.elim
 · refine EE (Jd (fun x h' hx=>?_) (Ms (Rs.all_bind hh)));simp only at hx;split at hx
   · rename_i h3;simp only[h3];exact ⟨hx.1.1,hx.1.2.1,hx.1.2.2,hx.2⟩
   · exact hx.elim
 · exact ⟨(Rs.CI hh).1,SR (Rs.CI hh).2⟩
 · exact hh.elim
def TK.Amb:TK→Bool
 | .slice _=>true
 | _=>false
def D.Agy:D→Bool
 | .cl []=>true
 | _=>false
def UU (ti:TI) (cs:List D):Bool:=ti.k.Amb&&(!cs.isEmpty&&cs.all D.Agy)
def Jj (P:Program) (st:St) (q:Nat) (op:Op):Rs (D×Hp):=
 match op with
 | .alloc t=>match AT P t with
   | some ti=>match ti.zero.stored with
     | some cs=> .ret (get st.hp q=none) (.ptr q 0,(q,.box cs (npT t cs))::st.hp)
     | none=> .fail
   | none=> .fail
 | .box _ x=>match (ev st x).stored with
   | some cs=> .ret (get st.hp q=none) (.ptr q 0,(q,.box cs)::st.hp)
   | none=> .fail
 | .store t a x=>(H9 P st.hp t (ev st a) (ev st x)).bind fun h=> .ret True (.BA [],h)
 | .makeMap _ none=> .ret (get st.hp q=none) (.mv q,(q,.mp [])::st.hp)
 | .mapUpdate t m i x=>(Ic P st.hp t (ev st m) (ev st i) (ev st x)).bind fun h=> .ret True (.BA [],h)
 | .buildSlice t n parts=>match AT P t with
   | some ⟨_,_,.slice e,_⟩=>match AT P e with
     | some ti=>match Ee (fun i=>some (i*ti.size,ti.size)) (List.replicate (n*ti.size) .bad) (parts.toList.map fun q=>(q.1,ev st q.2)) with
       | some cs=>if UU ti cs=true then .fail else (F4 st.hp cs).bind fun y=> .ret (0<ti.size∧n*ti.size≤16777216∧get y.2 q=none) (.ref q 0 n n,(q,.arr e ti.size (chunk ti.size n y.1))::y.2)
       | none=> .fail
     | none=> .fail
   | _=> .fail
 | .makeSlice t l m=>match AT P t,ev st l,ev st m with
   | some ⟨_,_,.slice e,_⟩,.p (.int _ l),.p (.int _ m)=>match AT P e with
     | some ti=>if ti.k.Amb=true then .fail else (F4 [] ti.zero.cells).bind fun y=> .ret (0<ti.size∧get st.hp q=none∧(0≤l∧l≤m∧m*ti.bytes≤140737488355328∧m≤140737488355328)∧ti.zero.cells.length=ti.size)
         (.ref q 0 l.toNat l.toNat,(q,.arr e ti.size (List.replicate l.toNat y.1))::st.hp)
     | none=> .fail
   | _,_,_=> .fail
 | _=> .fail
theorem F6 {P:Program} {st:St} {q:Nat} {op:Op} {k:D→Hp→Prop} (hh:(Jj P st q op).all (fun x=>k x.1 x.2)):mOp P st q op k:=by
 unfold Jj at hh;unfold mOp;split at hh
 · split at hh
   · rename_i h1;simp only[h1];split at hh
     · rename_i h2;simp only[h2];exact hh
     · exact hh.elim
   · exact hh.elim
 · split at hh
   · rename_i h2;simp only[h2];exact hh
   · exact hh.elim
 · exact YH (Rs.AE (fun h hx=>hx.2) (Rs.all_bind hh))
 · exact hh
 · exact Y2 (Rs.AE (fun h hx=>hx.2) (Rs.all_bind hh))
 · split at hh
   · rename_i h1;simp only[h1];split at hh
     · rename_i h2;simp only[h2];split at hh
       · rename_i h3;simp only[h3];split at hh
         · exact hh.elim
         have h4:=Jd (k':=fun y h=>_∧_∧get h q=none∧k _ _) (fun y h hy=>⟨hy.1.1,hy.1.2.1,hy.1.2.2,hy.2⟩) (Ms (Rs.all_bind hh));have h5:=EE h4;have h6:=EE h5.2;exact ⟨h5.1,h6.1,h6.2⟩
       · exact hh.elim
     · exact hh.elim
   · exact hh.elim
 · split at hh
   · rename_i h1 h2 h3;simp only[h1,h2,h3];split at hh
     · rename_i h4;simp only[h4];split at hh
       · exact hh.elim
       have h5:=Jd (k':=fun y h=>_∧_∧_∧_∧k _ _) (fun y h hy=>⟨hy.1.1,hy.1.2.1,hy.1.2.2.1,hy.1.2.2.2,hy.2⟩) (Ms (Rs.all_bind hh));have h6:=EE h5;have h7:=EE h6.2;have h8:=EE h7.2;have h9:=EE h8.2;exact ⟨h6.1,h7.1,h8.1,h9.1,h9.2⟩
     · exact hh.elim
   · exact hh.elim
 · exact hh.elim
def Sp (h:Hp) (d:D):Rs (D×Hp):=
 match d with
 | .ref id off len N=>match get h id with
   | some (.arr _ _ es)=> .ret (N=es.length) (.p (.sl ((es.drop off).take len)),froze h id)
   | some (.J3 _ es)=> .ret (N=es.length) (.p (.sl ((es.drop off).take len)),h)
   | _=> .fail
 | .BS id n=>match get h id with
   | some (.BP _ _ sz kk rows none)=> .ret (n=rows.length) (.p (.sl (rows.map fun r=>[.sl r])),Ae h id (.Df (GM (.BP sz rows.length kk))))
   | _=> .fail
 | .cl es=> .ret True (.p (.sl es),h)
 | d=> .ret True (d,h)
theorem CH {h:Hp} {d:D} {k:D→Hp→Prop} (hh:(Sp h d).all (fun x=>k x.1 x.2)):bor h d k:=by
 cases d with
 | ref id off len N=>
   simp only[Sp] at hh;simp only[bor];split at hh
   · exact hh
   · exact hh
   · exact hh.elim
 | BS id n=>
   simp only[Sp] at hh;simp only[bor];split at hh
   · exact hh
   · exact hh.elim
 | cl es=>exact hh.2
 | _=>exact hh.2
mutual
def Bk (h:Hp) (d:D):Rs (D×Hp):=
  match d with
  | .agg cs=>(D3 h cs).bind fun x=> .ret True (.agg x.1,x.2)
  | .BA cs=>(D3 h cs).bind fun x=> .ret True (.BA x.1,x.2)
  | d=>Sp h d
def D3:Hp→List D→Rs (List D×Hp)
  | h,[]=> .ret True ([],h)
  | h,d::r=>(Bk h d).bind fun x=>(D3 x.2 r).bind fun y=> .ret True (x.1::y.1,y.2)
end
mutual
theorem Po:∀{d:D} {h:Hp} {k:D→Hp→Prop},(Bk h d).all (fun x=>k x.1 x.2)→Db h d k
  | .agg cs,h,k,hh=>by simp only[Bk] at hh;simp only[Db];exact JK (Rs.AE (fun x hx=>hx.2) (Rs.all_bind hh))
  | .BA cs,h,k,hh=>by simp only[Bk] at hh;simp only[Db];exact JK (Rs.AE (fun x hx=>hx.2) (Rs.all_bind hh))
  | .p _,h,k,hh=>by simp only[Bk] at hh;simp only[Db];exact CH hh
  | .cl _,h,k,hh=>by simp only[Bk] at hh;simp only[Db];exact CH hh
  | .cz _,h,k,hh=>by simp only[Bk] at hh;simp only[Db];exact CH hh
  | .ref _ _ _ _,h,k,hh=>by simp only[Bk] at hh;simp only[Db];exact CH hh
  | .ptr _ _,h,k,hh=>by simp only[Bk] at hh;simp only[Db];exact CH hh
  | .pe _,h,k,hh=>by simp only[Bk] at hh;simp only[Db];exact CH hh
  | .ea _ _ _ _,h,k,hh=>by simp only[Bk] at hh;simp only[Db];exact CH hh
  | .fn _ _,h,k,hh=>by simp only[Bk] at hh;simp only[Db];exact CH hh
  | .np,h,k,hh=>by simp only[Bk] at hh;simp only[Db];exact CH hh
  | .mv _,h,k,hh=>by simp only[Bk] at hh;simp only[Db];exact CH hh
  | .BS _ _,h,k,hh=>by simp only[Bk] at hh;simp only[Db];exact CH hh
  | .J6 _ _ _,h,k,hh=>by simp only[Bk] at hh;simp only[Db];exact CH hh
  | .nr _ _ _ _,h,k,hh=>by simp only[Bk] at hh;simp only[Db];exact CH hh
  | .Pu,h,k,hh=>by simp only[Bk] at hh;simp only[Db];exact CH hh
  | .bad,h,k,hh=>by simp only[Bk] at hh;simp only[Db];exact CH hh
theorem JK:∀{ds:List D} {h:Hp} {k:List D→Hp→Prop},(D3 h ds).all (fun x=>k x.1 x.2)→Of h ds k
  | [],h,k,hh=>by simp only[D3] at hh;simp only[Of];exact hh.2
  | d::r,h,k,hh=>by
    simp only[D3] at hh;simp only[Of];exact Po (Rs.AE (fun x h1=>JK (Rs.AE (fun y h2=>h2.2) (Rs.all_bind h1))) (Rs.all_bind hh))
end
def Y6 (P:Program) (h:Hp) (t:TypeId) (x:D):Rs D:=
 match AT P t with
 | some ti=>match ti.k,x with
   | .string,.p (.str l)=> .ret True (.p (.int .i64 l.length))
   | .slice _,.p (.sl es)=> .ret True (.p (.int .i64 es.length))
   | .slice _,.cl es=> .ret True (.p (.int .i64 es.length))
   | .slice _,.ref id _ len N=> .ret (ZO h id N) (.p (.int .i64 len))
   | .slice _,.BS _ n=> .ret True (.p (.int .i64 n))
   | .slice _,.nr _ _ len _=> .ret True (.p (.int .i64 len))
   | .array n _,_=> .ret True (.p (.int .i64 n))
   | _,_=> .fail
 | none=> .fail
theorem WM {P:Program} {h:Hp} {t:TypeId} {x:D} {k:D→Prop} (hh:(Y6 P h t x).all k):Agq P h t x k:=by
 unfold Y6 at hh;unfold Agq;split at hh
 case h_2=>exact hh.elim
 try simp only[*]
 split at hh
 · first | exact hh.2 | (simp only[*];exact hh.2)
 · first | exact hh.2 | (simp only[*];exact hh.2)
 · first | exact hh.2 | (simp only[*];exact hh.2)
 · first | exact hh | (simp only[*];exact hh)
 · first | exact hh.2 | (simp only[*];exact hh.2)
 · first | exact hh.2 | (simp only[*];exact hh.2)
 · first | exact hh.2 | (simp only[*];exact hh.2)
 · exact hh.elim
def K8 (P:Program) (h:Hp) (t:TypeId) (s x:D):Rs (D×Hp):=
 match AT P t with
 | some ⟨_,_,.slice e,_⟩=>match AT P e with
   | some ti=>(QO h x).bind fun ys=>match s with
     | .ref id off len N=>match get h id with
       | some (.arr e' sz es)=> .ret (I1 ti.size ys∧0<ti.size∧N=es.length∧off+len≤N∧sz=ti.size)
           (.p (.int .i64 ((min len ys.length:Nat):Int)),Ae h id (.arr e' sz (es.take off++ys.take len++es.drop (off+min len ys.length))))
       | _=> .fail
     | _=> .fail
   | none=> .fail
 | _=> .fail
theorem Uo {P:Program} {h:Hp} {t:TypeId} {s x:D} {k:D→Hp→Prop} (hh:(K8 P h t s x).all (fun x=>k x.1 x.2)):XP P h t s x k:=by
 unfold K8 at hh;unfold XP;split at hh
 case h_2=>exact hh.elim
 rename_i h1;rw[h1];simp only;split at hh
 case h_2=>exact hh.elim
 rename_i ti h2;rw[h2];simp only;refine Th (fun ys hy=>?_) (Wo (Rs.all_bind hh));split at hy
 case h_2=>exact hy.elim
 split at hy
 case h_2=>exact hy.elim
 obtain ⟨⟨g1,g2,g3,g4,g5⟩,g6⟩:=hy;rename_i h3;exact ⟨fun y hy=>g1 y hy,g2,by simp only[h3];exact ⟨g3,g4,g5,g6⟩⟩
def C7 (P:Program) (st:St) (q:Nat) (b:Builtin) (ts:Array TypeId) (args:List D):Rs (D×Hp):=
 match b,args with
 | .len,[x]=>match ts[0]? with
   | some t=>(Y6 P st.hp t x).bind fun d=> .ret True (d,st.hp)
   | none=> .fail
 | .append,[s,x]=>match ts[0]?,ts[1]? with
   | some t,some t2=>Sv P st.hp q t t2 s x
   | _,_=> .fail
 | .copy,[s,x]=>match ts[0]?,ts[1]? with
   | some t,some _=>K8 P st.hp t s x
   | _,_=> .fail
 | .min,[.p (.int k1 x),.p (.int k2 y)]=> .ret (k1=k2) (.p (.int k1 (if y<x then y else x)),st.hp)
 | .max,[.p (.int k1 x),.p (.int k2 y)]=> .ret (k1=k2) (.p (.int k1 (if x<y then y else x)),st.hp)
 | _,_=> .fail
theorem JI {P:Program} {st:St} {q:Nat} {b:Builtin} {ts:Array TypeId} {args:List D} {k:D→Hp→Prop} (hh:(C7 P st q b ts args).all (fun x=>k x.1 x.2)):
   Lc P st q b ts args k:=by
 unfold C7 at hh;unfold Lc;split at hh
 · split at hh
   · first | exact WM (Rs.AE (fun x hx=>hx.2) (Rs.all_bind hh)) | (simp only[*];exact WM (Rs.AE (fun x hx=>hx.2) (Rs.all_bind hh)))
   · exact hh.elim
 · split at hh
   · first | exact X6 hh | (simp only[*];exact X6 hh)
   · exact hh.elim
 · split at hh
   · first | exact Uo hh | (simp only[*];exact Uo hh)
   · exact hh.elim
 · exact hh
 · exact hh
 · exact hh.elim
end Go.Am
namespace Go.Am
open Go
mutual
def D.CA (ρ:Nat→Option Nat):D→D
  | .p x=> .p x
  | .agg cs=> .agg (F3 ρ cs)
  | .BA cs=> .BA (F3 ρ cs)
  | .cl es=> .cl es
  | .cz es=> .cz es
  | .ref id off len N=>match ρ id with | some j=> .ref j off len N | none=> .bad
  | .ptr id off=>match ρ id with | some j=> .ptr j off | none=> .bad
  | .pe cs=> .pe cs
  | .ea id i c N=>match ρ id with | some j=> .ea j i c N | none=> .bad
  | .fn f cap=> .fn f (F3 ρ cap)
  | .np=> .np
  | .mv id=>match ρ id with | some j=> .mv j | none=> .bad
  | .BS id n=>match ρ id with | some j=> .BS j n | none=> .bad
  | .J6 id i n=>match ρ id with | some j=> .J6 j i n | none=> .bad
  | .nr id i len k=>match ρ id with | some j=> .nr j i len k | none=> .bad
  | .Pu=> .Pu
  | .bad=> .bad
def F3 (ρ:Nat→Option Nat):List D→List D
  | []=>[]
  | d::r=>D.CA ρ d::F3 ρ r
end
def AO.CA (ρ:Nat→Option Nat):AO→AO
 | .box cs t=> .box (F3 ρ cs) t
 | o=>o
mutual
def D.ids:D→List Nat
  | .ref id _ _ _ | .ptr id _ | .ea id _ _ _ | .mv id | .BS id _ | .J6 id _ _ | .nr id _ _ _=>[id]
  | .agg cs | .BA cs | .fn _ cs=>Ai cs
  | _=>[]
def Ai:List D→List Nat
  | []=>[]
  | d::r=>D.ids d++Ai r
end
def Dn (T:List Nat):List Nat→List Nat
 | []=>T
 | i::r=>if i∈T then Dn T r else Dn (T++[i]) r
def AO.ids:AO→List Nat
 | .box cs _=>Ai cs
 | _=>[]
def GK (h:Hp):List Nat→List Nat
 | []=>[]
 | i::r=>(match get h i with | some o=>o.ids | none=>[])++GK h r
def ghost (h:Hp) (id:Nat):List Nat:=match get h id with
 | some (.BK _ _)=>[id]
 | _=>[]
def O9 (h:Hp):List Nat:=ghost h base++(ghost h (base+1)++(ghost h (base+2)++ghost h (base+3)))
def B9 (h:Hp) (ids:List Nat):List Nat:=
 let t0:=Dn [] ids
 let t1:=Dn t0 (GK h t0)
 Dn (Dn t1 (GK h t1)) (O9 h)
def idx:List Nat→Nat→Nat→Option Nat
 | [],_,_=>none
 | x::r,k,id=>if x=id then some k else idx r (k+1) id
def sub (h:Hp) (ρ:Nat→Option Nat):Nat→List Nat→Hp
 | _,[]=>[]
 | k,id::r=>match get h id with
   | some o=>(k,o.CA ρ)::sub h ρ (k+1) r
   | none=>sub h ρ (k+1) r
def back (T:List Nat) (q j:Nat):Option Nat:=if base≤j then T[j - base]? else some (10000*(j+1)+q)
def merge (T:List Nat) (q:Nat) (h:Hp):Hp→Hp
 | []=>h
 | (j,o)::r=>match back T q j with
   | some id=>Ae (merge T q h r) id (o.CA (back T q))
   | none=>merge T q h r
def fresh (q:Nat) (h:Hp):Hp→Prop
 | []=>True
 | (j,_)::r=>(base≤j∨get h (10000*(j+1)+q)=none)∧fresh q h r
def Enters (P:Program) (f:FuncId):Prop:=∀args w,(callFunc f args).run P w= .ok (.enter f args) w
def Akp (P:Program) (f:FuncId) (vs:Array Value) (w:World) (Aur:Ending→World→Prop):Prop:=
 ((callFunc f vs).run P w= .ok (.enter f vs) w∧Calls P f vs w Aur)∨∃v w',(callFunc f vs).run P w= .ok (.value v) w'∧Aur (.returned v) w'
theorem Akp.mono {P:Program} {f:FuncId} {vs:Array Value} {w:World} {Q Q':Ending→World→Prop} (h:Akp P f vs w Q) (hq:∀e w',Q e w'→Q' e w'):Akp P f vs w Q':=by
 rcases h with ⟨h1,h2⟩ | ⟨v,w',h1,h2⟩
 · exact .inl ⟨h1,h2.mono hq⟩
 · exact .inr ⟨v,w',h1,hq _ _ h2⟩
def Aj (P:Program) (f:FuncId) (args:List D) (h:Hp) (R:Hp→D→Prop):Prop:=
 ∀(vs:Array Value) (w:World) (F:Nat→Prop) (M:Nat→Mb),HR F w M h→(∀b,F b→b<w.heap.size)→(∀id,sg h id≠none→base≤id)→G0 F w M (sg h) args vs.toList→
   Akp P f vs w fun e w'=>∃v h' r F' M',e= .returned v∧R h' r∧HR F' w' M' h'∧DR F' w' M' (sg h') r v∧Akt ⟨w,F,CL M h,M,sg h⟩ w' F' M' h'
@[congr] theorem ACalls_congr {P:Program} {f:FuncId} {args Aox:List D} {h h':Hp} {R:Hp→D→Prop} (e1:args=Aox) (e2:h=h'):Aj P f args h R=Aj P f Aox h' R:=by rw[e1,e2]
theorem Aj.mono {P:Program} {f:FuncId} {args:List D} {h:Hp} {R R':Hp→D→Prop} (hc:Aj P f args h R) (hR:∀h' r,R h' r→R' h' r):Aj P f args h R':=
 fun vs w F M h1 h2 EV h3=>(hc vs w F M h1 h2 EV h3).mono fun _ _ ⟨v,h',r,F',M',h4,h5,h6⟩=>⟨v,h',r,F',M',h4,hR _ _ h5,h6⟩
theorem SC {P:Program} {f:FuncId} {e:Array Value→Sem Value} {args:List D} {h:Hp} {R:Hp→D→Prop} (BW:∀args w,(callFunc f args).run P w=((e args).run P w).andThen fun v w'=> .ok (.value v) w')
   (hv:∀(vs:Array Value) w F M,G0 F w M (sg h) args vs.toList→∃v r,(e vs).run P w= .ok v w∧DR F w M (sg h) r v∧R h r):Aj P f args h R:=by
 intro vs w F M J2 M7 Qc hd;obtain ⟨v,r,h1,h2,h3⟩:=hv vs w F M hd;refine .inr ⟨v,w,?_,v,h,r,F,M,rfl,h3,J2,h2,⟨rfl,rfl,rfl,Nat.le_refl _,fun _ _ _=>rfl,fun _ h=>h,fun _ h=> .inl h,M7,fun _ h=> .inl h,Ba.refl _ _,Qc⟩⟩;rw[BW,h1];rfl
def Fx (P:Program) (h:Hp) (f:FuncId) (ds:List D) (q:Nat) (k:D→Hp→Prop):Prop:=
 let T:=B9 h (Ai ds)
 T.Nodup∧(T.all fun id=>(get h id).isSome)=true∧
 Aj P f (F3 (idx T base) ds) (sub h (idx T base) base T) fun h' r=>fresh q h h'∧k (r.CA (back T q)) (merge T q h h')
def Ij (P:Program) (st:St) (o:Oper):Rs (D×Hp):=
 match o.op with
 | .call c=>match c.callee with
   | .builtin b=>C7 P st (o.dst.getD 0) b c.argTypes (c.args.toList.map (ev st))
   | _=> .fail
 | .alloc _ | .box _ _ | .store _ _ _ | .buildSlice _ _ _ | .makeSlice _ _ _ | .makeMap _ _ | .mapUpdate _ _ _ _=>Jj P st (o.dst.getD 0) o.op
 | op=>(H7 P st op).bind fun d=> .ret True (d,st.hp)
def EP (st:St) (f:Operand) (args:List Operand):Rs (FuncId×List D×Hp):=
 match ev st f with
 | .fn g cap=>(D3 st.hp (args.map (ev st)++cap)).bind fun x=> .ret True (g,x.1,x.2)
 | _=> .fail
def Bz (o:Op):Option (Operand×List Operand):=
 match o with
 | .call c=>match c.callee with
   | .value f=>some (f,c.args.toList)
   | _=>none
 | _=>none
def Good (c:Ctx) (K:St→Prop):Act→World→Prop:=fun a w=>∃st F M,K st∧Rel c st a w F M
def Me (P:Program) (o:Oper) (K:St→Prop) (st:St):Prop:=
 ∀c a w F M (Q:Exit→Act→World→Prop),Rel c st a w F M→o.wp P a w (Good c K) Q
def JF (S:Prop) (P:Program) (h:Hp) (f:FuncId) (ds:List D) (q:Nat) (k:D→Hp→Prop):Prop:=
 let T:=B9 h (Ai ds)
 T.Nodup∧(T.all fun id=>(get h id).isSome)=true∧
 (Aj P f (F3 (idx T base) ds) (sub h (idx T base) base T) (fun h' r=>fresh q h h'∧k (r.CA (back T q)) (merge T q h h'))∨S)
theorem Pm {S:Prop} {P:Program} {h:Hp} {f:FuncId} {ds:List D} {q:Nat} {k:D→Hp→Prop} (hh:JF S P h f ds q k):Fx P h f ds q k∨S:=by
 obtain ⟨h1,h2,h3⟩:=hh;rcases h3 with h3 | h3
 · exact .inl ⟨h1,h2,h3⟩
 · exact .inr h3
theorem Ut {S:Prop} {P:Program} {h:Hp} {f:FuncId} {ds:List D} {q:Nat} {k:D→Hp→Prop} (hh:Fx P h f ds q k):JF S P h f ds q k:=⟨hh.1,hh.2.1,.inl hh.2.2⟩
theorem JE {X:Prop} {P:Program} {h:Hp} {f:FuncId} {ds:List D} {q:Nat} {k:D→Hp→Prop}:JF (false=true∧X) P h f ds q k=Fx P h f ds q k:=
 propext ⟨fun hh=>(Pm hh).elim id fun h=>(Bool.false_ne_true h.1).elim,Ut⟩
def OA (P:Program) (s:Bool) (o:Oper) (K:St→Prop) (st:St):Prop:=
 match Bz o.op with
 | some (f,args)=>(EP st f args).HG (s=true∧Me P o K st) fun x=>JF (s=true∧Me P o K st) P x.2.2 x.1 x.2.1 (o.dst.getD 0) fun d h'=>K (({st with hp:=h'}:St).put o.dst d)
 | none=>(Ij P st o).HG (s=true∧Me P o K st) fun x=>K (({st with hp:=x.2}:St).put o.dst x.1)
def DC (st:St) (ops:List Oper) (g:Option (Nat×Bool)) (yes no:Prop):Prop:=
 match g with
 | none=>yes
 | some (j,want)=>match ((ops[j]?).bind (·.dst)).bind (get st.env) with
   | some (.p (.bool b))=>Uz (b==want) yes no
   | some (.BA [])=>no
   | _=>False
def SJ (P:Program) (s:Bool) (ops:List Oper):List Oper→(St→Prop)→St→Prop
 | [],K,st=>K st
 | o::rest,K,st=>DC st ops o.guard (OA P s o (SJ P s ops rest K) st) (SJ P s ops rest K (st.put o.dst (.BA [])))
def thn (K:St→Prop) (Q:Exit→St→Prop):Exit→St→Prop
 | .normal,st=>K st
 | e,st=>Q e st
def BU (id:Nat) (Q:Exit→St→Prop):Exit→St→Prop
 | .exit MA,st=>if MA=id then Q .normal st else Q (.exit MA) st
 | e,st=>Q e st
def Wk (st st1:St):Prop:=∀c a w F M,Rel c st a w F M→∃F' M',Rel c st1 a w F' M'
def V5 (body:(Exit→St→Prop)→St→Prop) (Q:Exit→St→Prop):Nat→St→Prop
 | 0,_=>False
 | n+1,st=>∃st1,Wk st st1∧body (thn (V5 body Q n) Q) st1
def QC (c:Ctx) (Q:Exit→St→Prop):Exit→Act→World→Prop:=fun e a w=>∃st F M,Q e st∧Rel c st a w F M
def Arc (P:Program) (x:Code) (Q:Exit→St→Prop) (st:St):Prop:=
 ∀c a w F M,Rel c st a w F M→(Code.scope x).wp P (QC c Q) a w
def Auy (P:Program) (id:Nat) (ops:Array Oper) (Q:Exit→St→Prop) (st:St):Prop:=
 ∀c a w F M,Rel c st a w F M→(Code.region id ops true).wp P (QC c Q) a w
def wA (P:Program):Code→(Exit→St→Prop)→St→Prop
 | .skip,Q,st=>Q .normal st
 | .label _,Q,st=>Q .normal st
 | .ret,Q,st=>Q .ret st
 | .exit id,Q,st=>Q (.exit id) st
 | .goto l,Q,st=>Q (.goto l) st
 | .seq x y,Q,st=>wA P x (thn (wA P y Q) Q) st
 | .cond c x y,Q,st=>match ev st c with
   | .p (.bool b)=>Uz b (wA P x Q st) (wA P y Q st)
   | _=>False
 | .block id x,Q,st=>wA P x (BU id Q) st
 | .loop x,Q,st=>∃n,V5 (wA P x) Q n st
 | .scope x,Q,st=>Arc P x Q st
 | .region id ops draw,Q,st=>(draw=false∧SJ P true ops.toList ops.toList (Q .normal) st)∨(draw=true∧Auy P id ops Q st)
 | _,_,_=>False
end Go.Am
namespace Go.Am
open Go
section
variable {P:Program} {c:Ctx} {st:St} {a:Act} {w:World} {F:Nat→Prop} {M:Nat→Mb}
theorem Hi (ρ:Nat→Option Nat):∀(cs:List D) (i:Nat),(F3 ρ cs)[i]?=(cs[i]?).map (D.CA ρ)
 | [],i=>by simp[F3]
 | d::r,0=>by simp[F3]
 | d::r,i+1=>by simp[F3,Hi ρ r i]
theorem ED (ρ:Nat→Option Nat):∀cs:List D,(F3 ρ cs).length=cs.length
 | []=>rfl
 | d::r=>by simp[F3,ED ρ r]
theorem DR.CA {ρ:Nat→Option Nat} {M':Nat→Mb} {s s':Nat→Option Sg} {d:D} {v:Value} (h:DR F w M s d v)
   (hρ:∀id j,ρ id=some j→s id≠none→M' j=M id∧s' j=s id):DR F w M' s' (d.CA ρ) v:=by
 induction h with
 | p h=>simp only[D.CA];exact .p h
 | agg cs vs hl _ ih=>
   simp only[D.CA];refine .agg _ vs (by rw[ED];exact hl) fun i e he=>?_;rw[Hi] at he;cases hc:cs[i]? with
   | none=>rw[hc] at he;cases he
   | some q=>rw[hc] at he;cases he;exact ih i q hc
 | BA cs vs hl _ ih=>
   simp only[D.CA];refine .BA _ vs (by rw[ED];exact hl) fun i e he=>?_;rw[Hi] at he;cases hc:cs[i]? with
   | none=>rw[hc] at he;cases he
   | some q=>rw[hc] at he;cases he;exact ih i q hc
 | cl es a h hn=>simp only[D.CA];exact .cl es a h hn
 | cz es a h=>simp only[D.CA];exact .cz es a h
 | ref id off len N sz n v hs hN hv h2=>
   simp only[D.CA];cases hj:ρ id with
   | none=>exact .bad _
   | some j=>
     obtain ⟨h3,h4⟩:=hρ id j hj (by rw[hs];simp);exact .ref j off len N sz n v (by rw[h4,hs]) hN hv (fun e=>by rw[h3];exact h2 e)
 | ptr id off hs=>
   simp only[D.CA];cases hj:ρ id with
   | none=>exact .bad _
   | some j=>
     obtain ⟨h3,h4⟩:=hρ id j hj (by rw[hs];simp);have:=DR.ptr (F:=F) (w:=w) (M:=M') (s:=s') j off (by rw[h4,hs]);rwa[h3] at this
 | pe cs b off row t fr hF hh hi hp=>simp only[D.CA];exact .pe cs b off row t fr hF hh hi hp
 | ea id i q N sz n v hs hN hv h2=>
   simp only[D.CA];cases hj:ρ id with
   | none=>exact .bad _
   | some j=>
     obtain ⟨h3,h4⟩:=hρ id j hj (by rw[hs];simp);exact .ea j i q N sz n v (by rw[h4,hs]) hN hv (fun e=>by rw[h3];exact h2 e)
 | fn f cap vs hl _ ih=>
   simp only[D.CA];refine .fn f _ vs (by rw[ED];exact hl) fun i e he=>?_;rw[Hi] at he;cases hc:cap[i]? with
   | none=>rw[hc] at he;cases he
   | some q=>rw[hc] at he;cases he;exact ih i q hc
 | np=>simp only[D.CA];exact .np
 | mv id h1=>
   simp only[D.CA];cases hj:ρ id with
   | none=>exact .bad _
   | some j=>
     obtain ⟨h3,h4⟩:=hρ id j hj (by rw[h1];simp);rw[←h3];exact .mv j (by rw[h4,h1])
 | BS id n sz m k v h1 hN hv h2=>
   simp only[D.CA];cases hj:ρ id with
   | none=>exact .bad _
   | some j=>
     obtain ⟨h3,h4⟩:=hρ id j hj (by rw[h1];simp);exact .BS j n sz m k v (by rw[h4,h1]) hN hv (fun e=>by rw[h3];exact h2 e)
 | J6 id i n sz m k b h1 hN hi h2=>
   simp only[D.CA];cases hj:ρ id with
   | none=>exact .bad _
   | some j=>
     obtain ⟨h3,h4⟩:=hρ id j hj (by rw[h1];simp);exact .J6 j i n sz m k b (by rw[h4,h1]) hN hi (fun e=>by rw[h3];exact h2 e)
 | nr id i len q sz m k v h1 hN hv h2=>
   simp only[D.CA];cases hj:ρ id with
   | none=>exact .bad _
   | some j=>
     obtain ⟨h3,h4⟩:=hρ id j hj (by rw[h1];simp);exact .nr j i len q sz m k v (by rw[h4,h1]) hN hv (fun e=>by rw[h3];exact h2 e)
 | Pu v h=>simp only[D.CA];exact .Pu v h
 | bad v=>simp only[D.CA];exact .bad v
theorem G0.CA {ρ:Nat→Option Nat} {M':Nat→Mb} {s s':Nat→Option Sg} {ds:List D} {vs:List Value} (h:G0 F w M s ds vs)
   (hρ:∀id j,ρ id=some j→s id≠none→M' j=M id∧s' j=s id):G0 F w M' s' (F3 ρ ds) vs:=
 ⟨by rw[ED];exact h.1,fun i d hd=>by
   rw[Hi] at hd;cases hc:ds[i]? with
   | none=>rw[hc] at hd;cases hd
   | some q=>rw[hc] at hd;cases hd;exact (h.2 i q hc).CA hρ⟩
theorem AO.YP (ρ:Nat→Option Nat) (o:AO):(o.CA ρ).sg=o.sg:=by cases o<;>rfl
theorem AO.Eb (ρ:Nat→Option Nat) (o:AO) (m:Mb) (b:Nat):(o.CA ρ).DO m b↔o.DO m b:=by cases o<;>exact Iff.rfl
theorem Apj (ρ:Nat→Option Nat) (d:D):(d.CA ρ).U9=d.U9:=by
 cases d with
 | ref id off len N=>simp only[D.CA];cases ρ id<;>rfl
 | ptr id off=>simp only[D.CA];cases ρ id<;>rfl
 | ea id i c N=>simp only[D.CA];cases ρ id<;>rfl
 | mv id=>simp only[D.CA];cases ρ id<;>rfl
 | BS id n=>simp only[D.CA];cases ρ id<;>rfl
 | J6 id i n=>simp only[D.CA];cases ρ id<;>rfl
 | nr id i n k=>simp only[D.CA];cases ρ id<;>rfl
 | _=>rfl
theorem l5 (ρ:Nat→Option Nat):∀cs:List D,(F3 ρ cs).any D.U9=cs.any D.U9
 | []=>rfl
 | d::r=>by simp only[F3,List.any_cons,Apj,l5 ρ r]
theorem Apk {ρ:Nat→Option Nat} {d:D} (h:d.CA ρ= .cl []):d= .cl []:=by
 cases d with
 | ref id off len N=>simp only[D.CA] at h;cases hr:ρ id<;>rw[hr] at h<;>cases h
 | ptr id off=>simp only[D.CA] at h;cases hr:ρ id<;>rw[hr] at h<;>cases h
 | ea id i c N=>simp only[D.CA] at h;cases hr:ρ id<;>rw[hr] at h<;>cases h
 | mv id=>simp only[D.CA] at h;cases hr:ρ id<;>rw[hr] at h<;>cases h
 | BS id n=>simp only[D.CA] at h;cases hr:ρ id<;>rw[hr] at h<;>cases h
 | J6 id i n=>simp only[D.CA] at h;cases hr:ρ id<;>rw[hr] at h<;>cases h
 | nr id i n k=>simp only[D.CA] at h;cases hr:ρ id<;>rw[hr] at h<;>cases h
 | cl es=>simpa only[D.CA] using h
 | _=>simp[D.CA] at h
theorem LZ.CA {ρ:Nat→Option Nat} {M':Nat→Mb} {s s':Nat→Option Sg} {m:Mb} {o:AO} (h:LZ F w M s m o)
   (hρ:∀id j,ρ id=some j→s id≠none→M' j=M id∧s' j=s id):LZ F w M' s' m (o.CA ρ):=by
 cases o with
 | box cs ty=>
   obtain ⟨h1,row,t,h2,h3,h4⟩:=h;refine ⟨h1,row,t,h2,by rw[ED];exact h3,fun j d hd=>?_,fun h5 h6 j hj=>?_⟩
   · rw[Hi] at hd;cases hc:cs[j]? with
     | none=>rw[hc] at hd;cases hd
     | some q=>rw[hc] at hd;cases hd;exact ⟨(h4.1 j q hc).1.CA hρ,(h4.1 j q hc).2⟩
   · refine h4.2 h5 (by rwa[l5] at h6) j ?_;rw[Hi] at hj;cases hc:cs[j]? with
     | none=>rw[hc] at hj;cases hj
     | some q=>
       rw[hc] at hj;simp only[Option.map_some,Option.some.injEq] at hj;rw[Apk hj]
 | arr t sz es=>exact h
 | J3 sz es=>exact h
 | iter l pos=>exact h
 | BK g cs=>exact h
 | Df s=>exact h
 | mp l=>exact h
 | BP t e sz k rows hole=>exact h
theorem Hs:∀(T:List Nat) (k id j:Nat),idx T k id=some j→∃i,j=k+i∧T[i]?=some id
 | [],k,id,j,h=>by simp[idx] at h
 | x::r,k,id,j,h=>by
   simp only[idx] at h;split at h
   · rename_i e;cases h;exact ⟨0,by omega,by simp[e]⟩
   · obtain ⟨i,h1,h2⟩:=Hs r (k+1) id j h;exact ⟨i+1,by omega,by simpa using h2⟩
theorem r5 (h:Hp) (ρ:Nat→Option Nat):∀(T:List Nat) (k j:Nat),get (sub h ρ k T) j=if k≤j then ((T[j - k]?).bind (get h)).map (AO.CA ρ) else none
 | [],k,j=>by simp[sub,get]
 | id::r,k,j=>by
   have ih:=r5 h ρ r (k+1) j;by_cases e:k=j
   · subst e;simp only[sub,Nat.le_refl,if_true,Nat.sub_self,List.getElem?_cons_zero,Option.bind_some];cases ho:get h id with
     | some o=>simp[AI]
     | none=>rw[ih,if_neg (by omega)];simp
   · have:get (sub h ρ k (id::r)) j=get (sub h ρ (k+1) r) j:=by
       simp only[sub];cases ho:get h id with
       | some o=>rw[AI,if_neg e]
       | none=>rfl
     rw[this,ih];by_cases h2:k+1≤j
     · rw[if_pos h2,if_pos (by omega),show j - k=(j - (k+1))+1 from by omega,List.getElem?_cons_succ]
     · rw[if_neg h2,if_neg (by omega)]
theorem Ty {T:List Nat} (h:T.Nodup) {i j x:Nat} (hi:T[i]?=some x) (hj:T[j]?=some x):i=j:=by
 have h1:=(List.getElem?_eq_some_iff.1 hi);have h2:=(List.getElem?_eq_some_iff.1 hj);exact (List.getElem_inj (h₀:=h1.1) (h₁:=h2.1) h).1 (h1.2.trans h2.2.symm)
theorem RL {q:Nat} {h:Hp}:∀{h':Hp},fresh q h h'→∀j o,get h' j=some o→base≤j∨get h (10000*(j+1)+q)=none
 | [],_,j,o,hg=>by simp[get] at hg
 | (k,x)::r,hf,j,o,hg=>by
   rw[AI] at hg;split at hg
   · rename_i e;subst e;exact hf.1
   · exact RL hf.2 j o hg
theorem get_merge {T:List Nat} {q:Nat} {h:Hp}:∀{h':Hp} (id:Nat),
   (∃j o,get h' j=some o∧back T q j=some id∧get (merge T q h h') id=some (o.CA (back T q)))∨
   ((∀j o,get h' j=some o→back T q j≠some id)∧get (merge T q h h') id=get h id)∨¬(∀i j,back T q i=some id→back T q j=some id→(∃o,get h' i=some o)→(∃o,get h' j=some o)→i=j)
 | [],id=> .inr (.inl ⟨fun j o hg=>by simp[get] at hg,rfl⟩)
 | (k,x)::r,id=>by
   by_cases O1:∀i j,back T q i=some id→back T q j=some id→(∃o,get ((k,x)::r) i=some o)→(∃o,get ((k,x)::r) j=some o)→i=j
   case neg=>exact .inr (.inr O1)
   by_cases hb:back T q k=some id
   · refine .inl ⟨k,x,by simp[AI],hb,?_⟩;simp only[merge,hb,A9,if_true]
   · have W2:get (merge T q h ((k,x)::r)) id=get (merge T q h r) id:=by
       simp only[merge];cases hk:back T q k with
       | none=>rfl
       | some MA=>rw[A9,if_neg (fun e=>hb (by rw[hk,e]))]
     have NQ:∀i,(∃o,get r i=some o)→back T q i=some id→∃o,get ((k,x)::r) i=some o:=fun i ⟨o,ho⟩ hbi=>by
       rw[AI];by_cases e:k=i
       · subst e;exact (hb hbi).elim
       · rw[if_neg e];exact ⟨o,ho⟩
     rcases get_merge (T:=T) (q:=q) (h:=h) (h':=r) id with ⟨j,o,h1,h2,h3⟩ | ⟨h1,h2⟩ | h1
     · refine .inl ⟨j,o,?_,h2,by rw[W2];exact h3⟩;rw[AI,if_neg (fun e=>by subst e;exact hb h2)];exact h1
     · refine .inr (.inl ⟨fun j o hg=>?_,by rw[W2];exact h2⟩);rw[AI] at hg;split at hg
       · rename_i e;subst e;exact hb
       · exact h1 j o hg
     · exact (h1 fun i j hi hj hoi hoj=>O1 i j hi hj (NQ i hoi hi) (NQ j hoj hj)).elim
theorem P2 (hr:Rel c st a w F M) {f:FuncId} {ds:List D} {q:Nat} {k:D→Hp→Prop} {vs:Array Value} (hd:G0 F w M (sg st.hp) ds vs.toList) (h:Fx P st.hp f ds q k):
   Akp P f vs w fun e w'=>∃v d h' F' M',e= .returned v∧k d h'∧Rel c {st with hp:=h'} a w' F' M'∧DR F' w' M' (sg h') d v:=by
 unfold Fx at h;generalize B9 st.hp (Ai ds)=T at h;obtain ⟨hT,B4,KS⟩:=h;have L8:∀id,id∈T→∃o,get st.hp id=some o:=fun id hid=>by
   have:=List.all_eq_true.1 B4 id hid;exact Option.isSome_iff_exists.1 this
 have p8:∀j,get (sub st.hp (idx T base) base T) j=if base≤j then ((T[j - base]?).bind (get st.hp)).map (AO.CA (idx T base)) else none:=r5 _ _ T base
 have Ah5:∀i id,T[i]?=some id→sg (sub st.hp (idx T base) base T) (base+i)=sg st.hp id:=fun i id hi=>by
   unfold sg;rw[p8,if_pos (Nat.le_add_right _ _),Nat.add_sub_cancel_left,hi];cases ho:get st.hp id with
   | none=>simp[ho]
   | some o=>simp[ho,AO.YP]
 have hρ:∀id j,idx T base id=some j→sg st.hp id≠none→(fun j=>M (T.getD (j - base) 0)) j=M id∧sg (sub st.hp (idx T base) base T) j=sg st.hp id:=fun id j hj _=>by
   obtain ⟨i,rfl,hi⟩:=Hs T base id j hj;refine ⟨?_,Ah5 i id hi⟩;simp only[Nat.add_sub_cancel_left,List.getD_eq_getElem?_getD,hi,Option.getD_some]
 have Zr:∀b,CL (fun j=>M (T.getD (j - base) 0)) (sub st.hp (idx T base) base T) b→∃(i id:Nat) (o:AO),T[i]?=some id∧get st.hp id=some o∧o.DO (M id) b:=by
   rintro b ⟨j,o,hj,A6⟩;rw[p8] at hj;split at hj
   case isFalse=>cases hj
   cases hi:T[j - base]? with
   | none=>rw[hi] at hj;simp at hj
   | some id=>
     rw[hi] at hj;simp only[Option.bind_some] at hj;cases ho:get st.hp id with
     | none=>rw[ho] at hj;simp at hj
     | some o2=>
       rw[ho] at hj;simp only[Option.map_some,Option.some.injEq] at hj;subst hj;have hM:M (T.getD (j - base) 0)=M id:=by simp only[List.getD_eq_getElem?_getD,hi,Option.getD_some]
       simp only[hM,AO.Eb] at A6 ⊢;exact ⟨j - base,id,o2,hi,ho,A6⟩
 have J2:HR F w (fun j=>M (T.getD (j - base) 0)) (sub st.hp (idx T base) base T):=by
   have key:∀j o,get (sub st.hp (idx T base) base T) j=some o→∃id o2,T[j - base]?=some id∧base≤j∧get st.hp id=some o2∧o=o2.CA (idx T base)∧M (T.getD (j - base) 0)=M id:=by
     intro j o hj;rw[p8] at hj;split at hj
     case isFalse=>cases hj
     rename_i hle;cases hi:T[j - base]? with
     | none=>rw[hi] at hj;simp at hj
     | some id=>
       rw[hi] at hj;simp only[Option.bind_some] at hj;cases ho:get st.hp id with
       | none=>rw[ho] at hj;simp at hj
       | some o2=>
         rw[ho] at hj;simp only[Option.map_some,Option.some.injEq] at hj;exact ⟨id,o2,rfl,hle,ho,hj.symm,by simp only[List.getD_eq_getElem?_getD,hi,Option.getD_some]⟩
   constructor
   · intro j o hj;obtain ⟨id,o2,_,_,ho,rfl,hM⟩:=key j o hj;simp only[hM];exact (hr.heap.obj id o2 ho).CA hρ
   · intro j o j' o' b hj ET A6 CE;obtain ⟨id,o2,hi,hle,ho,rfl,hM⟩:=key j o hj;obtain ⟨MA,o2',RF,Atl,Lv,rfl,hM'⟩:=key j' o' ET;simp only[hM,hM',AO.Eb] at A6 CE;have:=hr.heap.inj id o2 MA o2' b ho Lv A6 CE;subst this;have:=Ty hT hi RF;omega
 refine (KS vs w F _ J2 hr.keep.Fl (fun id hid=>by
   by_cases e:base≤id
   · exact e
   · exact (hid (by unfold sg;rw[p8,if_neg e];rfl)).elim) (hd.CA hρ)).mono ?_
 rintro e w' ⟨v,h',r,F',M',rfl,⟨Zx,hk⟩,S2,Aqr,hK⟩;refine ⟨v,D.CA (back T q) r,merge T q st.hp h',F',?_⟩;have EK:∀j id,back T q j=some id→(∃o,get h' j=some o)→(base≤j∧T[j - base]?=some id)∨(j<base∧get st.hp id=none):=by
   intro j id hb ⟨o,ho⟩;unfold back at hb;by_cases e1:base≤j
   · rw[if_pos e1] at hb;exact .inl ⟨e1,hb⟩
   · rw[if_neg e1] at hb;simp only[Option.some.injEq] at hb;refine .inr ⟨by omega,?_⟩;have:=(RL Zx j o ho).resolve_left e1;rwa[hb] at this
 have O1:∀id i j,back T q i=some id→back T q j=some id→(∃o,get h' i=some o)→(∃o,get h' j=some o)→i=j:=by
   intro id i j hi hj hoi hoj;have h1:=EK i id hi hoi;have h2:=EK j id hj hoj;rcases h1 with ⟨h1,h3⟩ | ⟨h1,h3⟩<;>rcases h2 with ⟨h2,h4⟩ | ⟨h2,h4⟩
   · have:=Ty hT h3 h4;omega
   · obtain ⟨o,ho⟩:=L8 id (List.mem_of_getElem? h3);rw[h4] at ho;cases ho
   · obtain ⟨o,ho⟩:=L8 id (List.mem_of_getElem? h4);rw[h3] at ho;cases ho
   · unfold back at hi hj;rw[if_neg (by omega)] at hi hj;simp only[Option.some.injEq] at hi hj;omega
 classical
 let M2:Nat→Mb:=fun id=>if hx:∃j,(∃o,get h' j=some o)∧back T q j=some id then M' hx.choose else M id
 have hM2:∀j id,(∃o,get h' j=some o)→back T q j=some id→M2 id=M' j:=by
   intro j id ho hb;have hx:∃j,(∃o,get h' j=some o)∧back T q j=some id:=⟨j,ho,hb⟩;simp only[M2,dif_pos hx];rw[O1 id _ _ hx.choose_spec.2 hb hx.choose_spec.1 ho]
 have ZD:∀id,(∀j o,get h' j=some o→back T q j≠some id)→M2 id=M id:=by
   intro id M5;simp only[M2];rw[dif_neg];rintro ⟨j,⟨o,ho⟩,hb⟩;exact M5 j o ho hb
 have AN:∀id,(∃j o,get h' j=some o∧back T q j=some id∧get (merge T q st.hp h') id=some (o.CA (back T q)))∨
     ((∀j o,get h' j=some o→back T q j≠some id)∧get (merge T q st.hp h') id=get st.hp id):=by
   intro id;rcases get_merge (T:=T) (q:=q) (h:=st.hp) (h':=h') id with h1 | h1 | h1
   · exact .inl h1
   · exact .inr h1
   · exact (h1 (O1 id)).elim
 have hσ:∀j id,back T q j=some id→sg h' j≠none→M2 id=M' j∧sg (merge T q st.hp h') id=sg h' j:=by
   intro j id hb hs;have ho:∃o,get h' j=some o:=by
     cases hg:get h' j with
     | none=>exact (hs (by simp[sg,hg])).elim
     | some o=>exact ⟨o,rfl⟩
   refine ⟨hM2 j id ho hb,?_⟩;rcases AN id with ⟨j2,o2,h1,h2,h3⟩ | ⟨h1,_⟩
   · have:=O1 id j j2 hb h2 ho ⟨o2,h1⟩;subst this;simp[sg,h1,h3,AO.YP]
   · obtain ⟨o,ho⟩:=ho;exact (h1 j o ho hb).elim
 have Atb:∀id,(∃o,get st.hp id=some o)→id∉T→(∀j o,get h' j=some o→back T q j≠some id):=by
   intro id ⟨o,ho⟩ hid j o2 hj hb;rcases EK j id hb ⟨o2,hj⟩ with ⟨_,h1⟩ | ⟨_,h1⟩
   · exact hid (List.mem_of_getElem? h1)
   · rw[h1] at ho;cases ho
 have Ah6:∀id o,get st.hp id=some o→id∉T→get (merge T q st.hp h') id=some o∧M2 id=M id:=by
   intro id o ho hid;have M5:=Atb id ⟨o,ho⟩ hid;rcases AN id with ⟨j,o2,h1,h2,h3⟩ | ⟨_,h2⟩
   · exact (M5 j o2 h1 h2).elim
   · exact ⟨by rw[h2,ho],ZD id M5⟩
 have Aq7:Ba M M2 (sg st.hp) (sg (merge T q st.hp h')):=by
   have hK2:=hK.Tm;simp only at hK2;refine ⟨fun id hid=>?_,fun id sz n hid=>?_,fun id sz n kk hid=>?_⟩
   · by_cases Di:id∈T
     · obtain ⟨i,hi⟩:=List.mem_iff_getElem?.1 Di;obtain ⟨h1,h2⟩:=hK2.1 (base+i) (by rw[Ah5 i id hi];exact hid);have hb:back T q (base+i)=some id:=by unfold back;rw[if_pos (Nat.le_add_right _ _),Nat.add_sub_cancel_left];exact hi
       obtain ⟨h3,h4⟩:=hσ _ _ hb (by rw[h1];simp);refine ⟨by rw[h4,h1],?_⟩;rw[h3,h2];simp only[Nat.add_sub_cancel_left,List.getD_eq_getElem?_getD,hi,Option.getD_some]
     · obtain ⟨o,ho,hso⟩:=Afs hid;obtain ⟨h1,h2⟩:=Ah6 id _ ho Di;exact ⟨by simp[sg,h1,hso],by rw[h2]⟩
   · by_cases Di:id∈T
     · obtain ⟨i,hi⟩:=List.mem_iff_getElem?.1 Di;obtain ⟨n',h1,CO,h2⟩:=hK2.2.1 (base+i) sz n (by rw[Ah5 i id hi];exact hid);have hb:back T q (base+i)=some id:=by unfold back;rw[if_pos (Nat.le_add_right _ _),Nat.add_sub_cancel_left];exact hi
       obtain ⟨h3,h4⟩:=hσ _ _ hb (by rw[h1];simp);refine ⟨n',by rw[h4,h1],CO,fun e=>?_⟩;rw[h3,h2 e];simp only[Nat.add_sub_cancel_left,List.getD_eq_getElem?_getD,hi,Option.getD_some]
     · have:∃o,get st.hp id=some o:=by
         cases hg:get st.hp id with
         | none=>simp[sg,hg] at hid
         | some o=>exact ⟨o,rfl⟩
       obtain ⟨o,ho⟩:=this;obtain ⟨h1,h2⟩:=Ah6 id o ho Di;refine ⟨n,?_,Nat.le_refl _,fun _=>h2⟩;simp only[sg,h1,ho] at hid ⊢;exact hid
   · by_cases Di:id∈T
     · obtain ⟨i,hi⟩:=List.mem_iff_getElem?.1 Di;obtain ⟨n',k',h1,CO,Aqu,h2,EV⟩:=hK2.2.2 (base+i) sz n kk (by rw[Ah5 i id hi];exact hid);have hb:back T q (base+i)=some id:=by unfold back;rw[if_pos (Nat.le_add_right _ _),Nat.add_sub_cancel_left];exact hi
       obtain ⟨h3,h4⟩:=hσ _ _ hb (by rw[h1];simp);refine ⟨n',k',by rw[h4,h1],CO,Aqu,fun e=>?_,fun e=>?_⟩
       · rw[h3];have h5:=h2 e;simp only[Nat.add_sub_cancel_left,List.getD_eq_getElem?_getD,hi,Option.getD_some] at h5;exact h5
       · rw[h3];have h5:=EV e;simp only[Nat.add_sub_cancel_left,List.getD_eq_getElem?_getD,hi,Option.getD_some] at h5;exact h5
     · have:∃o,get st.hp id=some o:=by
         cases hg:get st.hp id with
         | none=>simp[sg,hg] at hid
         | some o=>exact ⟨o,rfl⟩
       obtain ⟨o,ho⟩:=this;obtain ⟨h1,h2⟩:=Ah6 id o ho Di;refine ⟨n,kk,?_,Nat.le_refl _,Nat.le_refl _,fun _=>by rw[h2];exact ⟨rfl,rfl⟩,fun _=>by rw[h2]⟩;simp only[sg,h1,ho] at hid ⊢;exact hid
 have OY:∀id o b,get st.hp id=some o→o.DO (M id) b→id∉T→¬CL (fun j=>M (T.getD (j - base) 0)) (sub st.hp (idx T base) base T) b:=by
   intro id o b ho A6 hid hO;obtain ⟨i,id2,o2,h1,h2,h3⟩:=Zr _ hO;have:=hr.heap.inj id2 o2 id o b h2 ho h3 A6;subst this;exact hid (List.mem_of_getElem? h1)
 have hF:∀b,F b→w'.heap[b]?=w.heap[b]?:=fun b hb=>hK.J5 b (hr.keep.Fl b hb) (fun hO=>by
   obtain ⟨i,id,o,h1,h2,h3⟩:=Zr _ hO;exact hr.heap.Hl ⟨id,o,h2,h3⟩ hb)
 have Awv:∀id o b,get st.hp id=some o→o.DO (M id) b→id∉T→¬F' b:=fun id o b ho A6 hid hf=>by
   rcases hK.Fn _ hf with h1 | h1 | h1
   · exact hr.heap.Hl ⟨id,o,ho,A6⟩ h1
   · exact OY id o b ho A6 hid h1
   · have:=hr.heap.lt ⟨id,o,ho,A6⟩;simp only at h1;omega
 refine ⟨M2,rfl,hk,?_,Aqr.CA hσ⟩;have Vh:∀id o,get (merge T q st.hp h') id=some o→(∀j o,get h' j=some o→back T q j≠some id)→get st.hp id=some o→id∉T:=by
   intro id o _ M5 ho Di;obtain ⟨i,hi⟩:=List.mem_iff_getElem?.1 Di;have hb:back T q (base+i)=some id:=by unfold back;rw[if_pos (Nat.le_add_right _ _),Nat.add_sub_cancel_left];exact hi
   have hs:sg (sub st.hp (idx T base) base T) (base+i)≠none:=by rw[Ah5 i id hi];simp[sg,ho]
   have:∃o,get h' (base+i)=some o:=by
     cases KN:sg (sub st.hp (idx T base) base T) (base+i) with
     | none=>exact (hs KN).elim
     | some s2=>
       cases s2 with
       | box=>
         have h1:=(hK.Tm.1 _ KN).1;obtain ⟨o,Zz,_⟩:=Afs h1;exact ⟨_,Zz⟩
       | arr sz n=>
         obtain ⟨n',h1,_⟩:=hK.Tm.2.1 _ sz n KN;rcases Apg h1 with ⟨t,es,h2,_⟩ | ⟨es,h2,_⟩ | ⟨_,h2,_⟩
         · exact ⟨_,h2⟩
         · exact ⟨_,h2⟩
         · exact ⟨_,h2⟩
       | BP sz n kk=>
         obtain ⟨n',k',h1,_⟩:=hK.Tm.2.2 _ sz n kk KN;unfold sg at h1;cases TX:get h' (base+i) with
         | none=>rw[TX] at h1;simp at h1
         | some o3=>exact ⟨o3,rfl⟩
   obtain ⟨o2,SF⟩:=this;exact M5 _ o2 SF hb
 constructor
 · intro t d ht;exact (hr.env t d ht).keep hF hK.F0 Aq7
 · exact hr.size
 · exact hr.defers
 · constructor
   · intro id o ho;rcases AN id with ⟨j,o2,h1,h2,h3⟩ | ⟨h1,h2⟩
     · rw[h3] at ho;cases ho;rw[hM2 j id ⟨o2,h1⟩ h2];exact (S2.obj j o2 h1).CA hσ
     · have Lv:get st.hp id=some o:=by rw[←h2];exact ho
       have hid:=Vh id o ho h1 Lv;rw[ZD id h1];exact (hr.heap.obj id o Lv).keep hF hK.F0 Aq7 (fun b A6=>⟨hK.J5 b (hr.heap.lt ⟨id,o,Lv,A6⟩) (OY id o b Lv A6 hid),Awv id o b Lv A6 hid⟩)
   · intro id o MA o' b ho Lv A6 CE;have Aou:∀j oj id2 o2,get h' j=some oj→oj.DO (M' j) b→get st.hp id2=some o2→o2.DO (M id2) b→id2∉T→False:=by
       intro j oj id2 o2 hj At9 h2 p3 Ax3;rcases hK.own _ ⟨j,oj,hj,At9⟩ with h3 | h3
       · exact OY id2 o2 b h2 p3 Ax3 h3
       · have:=hr.heap.lt ⟨id2,o2,h2,p3⟩;simp only at h3;omega
     rcases AN id with ⟨j,o2,h1,h2,h3⟩ | ⟨h1,h2⟩<;>rcases AN MA with ⟨j',o2',CO,EV,h3'⟩ | ⟨CO,EV⟩
     · rw[h3] at ho;rw[h3'] at Lv;cases ho;cases Lv;rw[hM2 j id ⟨o2,h1⟩ h2] at A6;rw[hM2 j' MA ⟨o2',CO⟩ EV] at CE;have:=S2.inj j o2 j' o2' b h1 CO ((AO.Eb _ _ _ _).1 A6) ((AO.Eb _ _ _ _).1 CE);subst this;rw[h2] at EV;cases EV;rfl
     · rw[h3] at ho;cases ho;have SF:get st.hp MA=some o':=by rw[←EV];exact Lv
       rw[hM2 j id ⟨o2,h1⟩ h2] at A6;rw[ZD MA CO] at CE;exact (Aou j o2 MA o' h1 ((AO.Eb _ _ _ _).1 A6) SF CE (Vh MA o' Lv CO SF)).elim
     · rw[h3'] at Lv;cases Lv;have SF:get st.hp id=some o:=by rw[←h2];exact ho
       rw[hM2 j' MA ⟨o2',CO⟩ EV] at CE;rw[ZD id h1] at A6;exact (Aou j' o2' id o CO ((AO.Eb _ _ _ _).1 CE) SF A6 (Vh id o ho h1 SF)).elim
     · have SF:get st.hp id=some o:=by rw[←h2];exact ho
       have Awp:get st.hp MA=some o':=by rw[←EV];exact Lv
       rw[ZD id h1] at A6;rw[ZD MA CO] at CE;exact hr.heap.inj id o MA o' b SF Awp A6 CE
 · have Ex:=hr.keep;have Ahg:∀b,CL (fun j=>M (T.getD (j - base) 0)) (sub st.hp (idx T base) base T) b→c.O0 b∨c.w0.heap.size≤b:=fun b hO=>by
     obtain ⟨i,id,o,h1,h2,h3⟩:=Zr _ hO;exact Ex.own _ ⟨id,o,h2,h3⟩
   refine ⟨hK.os.trans Ex.os,hK.tape.trans Ex.tape,hK.output.trans Ex.output,Nat.le_trans Ex.size hK.size,fun b hb hO=>?_,fun b hb=>hK.F0 b (Ex.F0 b hb),fun b hb=>?_,hK.Fl,?_,Ex.Tm.trans Aq7,Ex.YN⟩
   · rw[hK.J5 b (Nat.lt_of_lt_of_le hb Ex.size) (fun hO2=>?_)]
     · exact Ex.J5 b hb hO
     · rcases Ahg b hO2 with h1 | h1
       · exact hO h1
       · omega
   · rcases hK.Fn b hb with h1 | h1 | h1
     · exact Ex.Fn b h1
     · exact .inr (Ahg b h1)
     · exact .inr (.inr (Nat.le_trans Ex.size h1))
   · rintro b ⟨id,o,ho,A6⟩;rcases AN id with ⟨j,o2,h1,h2,h3⟩ | ⟨h1,h2⟩
     · rw[h3] at ho;cases ho;rw[hM2 j id ⟨o2,h1⟩ h2] at A6;rcases hK.own _ ⟨j,o2,h1,(AO.Eb _ _ _ _).1 A6⟩ with h4 | h4
       · exact Ahg _ h4
       · exact .inr (Nat.le_trans Ex.size h4)
     · have SF:get st.hp id=some o:=by rw[←h2];exact ho
       rw[ZD id h1] at A6;exact Ex.own _ ⟨id,o,SF,A6⟩
end
end Go.Am
namespace Go.Am
open Go
section
variable {P:Program} {c:Ctx} {st:St} {a:Act} {w:World} {F:Nat→Prop} {M:Nat→Mb}
theorem Rel.put (hr:Rel c st a w F M) {d:D} {v:Value} (hd:DR F w M (sg st.hp) d v) (t:Option Tmp):Rel c (st.put t d) (a.put t v) w F M:=by
 cases t with
 | none=>exact hr
 | some t=>
   simp only[St.put,Act.put];by_cases ht:t<st.n
   · rw[if_pos ht];have AL:t<a.tmps.size:=by rw[hr.size];exact ht
     refine ⟨fun q e hq=>?_,by simp[hr.size],hr.defers,hr.heap,hr.keep⟩;simp only[AI] at hq;have CD:=hr.size;by_cases e1:t=q
     · subst e1;simp only[if_true,Option.some.injEq] at hq;subst hq;have:(a.tmps.setIfInBounds t v).getD t undef=v:=by rw[Array.getD_eq_getD_getElem?,Array.getElem?_setIfInBounds,if_pos rfl,if_pos AL];rfl
       rw[this];exact hd
     · rw[if_neg e1] at hq;have:(a.tmps.setIfInBounds t v).getD q undef=a.tmps.getD q undef:=by rw[Array.getD_eq_getD_getElem?,Array.getD_eq_getD_getElem?,Array.getElem?_setIfInBounds,if_neg e1]
       rw[this];exact hr.env q e hq
   · rw[if_neg ht];have:a.tmps.setIfInBounds t v=a.tmps:=by
       have hge:¬t<a.tmps.size:=by rw[hr.size];exact ht
       unfold Array.setIfInBounds;rw[dif_neg hge]
     rw[this];exact hr
theorem Cd (hr:Rel c st a w F M) {d:D} {v:Value} (hd:DR F w M (sg st.hp) d v) {k:D→Hp→Prop} (h:bor st.hp d k):
   ∃d' h' F',k d' h'∧Rel c {st with hp:=h'} a w F' M∧(∀b,F b→F' b)∧sg h'=sg st.hp∧DR F' w M (sg h') d' v:=by
 have plain:k d st.hp→∃d' h' F',k d' h'∧Rel c {st with hp:=h'} a w F' M∧(∀b,F b→F' b)∧sg h'=sg st.hp∧DR F' w M (sg h') d' v:=
   fun hk=>⟨d,st.hp,F,hk,hr,fun _ h=>h,rfl,hd⟩
 unfold bor at h;cases d with
 | ref id off len N=>
   have h2:Iw st.hp (.ref id off len N) (fun x h'=>k (.p x) h'):=by
     unfold Iw;simp only at h ⊢;exact h
   obtain ⟨x,h',F',hk,h3,h4,h5,h6⟩:=Je hr hd h2;exact ⟨_,h',F',hk,h3,h4,h5,.p h6⟩
 | BS id n=>
   have h2:Iw st.hp (.BS id n) (fun x h'=>k (.p x) h'):=by
     unfold Iw;simp only at h ⊢;exact h
   obtain ⟨x,h',F',hk,h3,h4,h5,h6⟩:=Je hr hd h2;exact ⟨_,h',F',hk,h3,h4,h5,.p h6⟩
 | cl es=>cases hd with | cl _ ad hx _=>exact ⟨_,st.hp,F,h,hr,fun _ h=>h,rfl,.p hx⟩
 | _=>exact plain h
mutual
theorem MV:∀(d:D) {st:St} {F:Nat→Prop} {v:Value},Rel c st a w F M→DR F w M (sg st.hp) d v→∀{k:D→Hp→Prop},Db st.hp d k→
    ∃d' h' F',k d' h'∧Rel c {st with hp:=h'} a w F' M∧(∀b,F b→F' b)∧sg h'=sg st.hp∧DR F' w M (sg h') d' v
  | .agg cs,st,F,v,hr,hd,k,h=>by
    cases hd with
    | agg _ vs hl hc=>
      simp only[Db] at h;obtain ⟨ds,h',F',hk,h1,h2,h3,h4⟩:=H5 cs vs.toList hr ⟨by simpa using hl,fun i e he=>by have:=hc i e he;simpa [List.getD,Array.getD_eq_getD_getElem?] using this⟩ h;exact ⟨_,h',F',hk,h1,h2,h3,.agg _ vs (by have:=h4.1;simpa using this) (fun i e he=>by have:=h4.2 i e he;simpa [List.getD,Array.getD_eq_getD_getElem?] using this)⟩
  | .BA cs,st,F,v,hr,hd,k,h=>by
    cases hd with
    | BA _ vs hl hc=>
      simp only[Db] at h;obtain ⟨ds,h',F',hk,h1,h2,h3,h4⟩:=H5 cs vs.toList hr ⟨by simpa using hl,fun i e he=>by have:=hc i e he;simpa [List.getD,Array.getD_eq_getD_getElem?] using this⟩ h;exact ⟨_,h',F',hk,h1,h2,h3,.BA _ vs (by have:=h4.1;simpa using this) (fun i e he=>by have:=h4.2 i e he;simpa [List.getD,Array.getD_eq_getD_getElem?] using this)⟩
  | .p x,st,F,v,hr,hd,k,h=>Cd hr hd (by simpa only[Db] using h)
  | .cl x,st,F,v,hr,hd,k,h=>Cd hr hd (by simpa only[Db] using h)
  | .cz x,st,F,v,hr,hd,k,h=>Cd hr hd (by simpa only[Db] using h)
  | .ref _ _ _ _,st,F,v,hr,hd,k,h=>Cd hr hd (by simpa only[Db] using h)
  | .ptr _ _,st,F,v,hr,hd,k,h=>Cd hr hd (by simpa only[Db] using h)
  | .pe _,st,F,v,hr,hd,k,h=>Cd hr hd (by simpa only[Db] using h)
  | .ea _ _ _ _,st,F,v,hr,hd,k,h=>Cd hr hd (by simpa only[Db] using h)
  | .fn _ _,st,F,v,hr,hd,k,h=>Cd hr hd (by simpa only[Db] using h)
  | .np,st,F,v,hr,hd,k,h=>Cd hr hd (by simpa only[Db] using h)
  | .mv _,st,F,v,hr,hd,k,h=>Cd hr hd (by simpa only[Db] using h)
  | .BS _ _,st,F,v,hr,hd,k,h=>Cd hr hd (by simpa only[Db] using h)
  | .J6 _ _ _,st,F,v,hr,hd,k,h=>Cd hr hd (by simpa only[Db] using h)
  | .nr _ _ _ _,st,F,v,hr,hd,k,h=>Cd hr hd (by simpa only[Db] using h)
  | .Pu,st,F,v,hr,hd,k,h=>Cd hr hd (by simpa only[Db] using h)
  | .bad,st,F,v,hr,hd,k,h=>Cd hr hd (by simpa only[Db] using h)
theorem H5:∀(ds:List D) {st:St} {F:Nat→Prop} (vs:List Value),Rel c st a w F M→G0 F w M (sg st.hp) ds vs→∀{k:List D→Hp→Prop},Of st.hp ds k→
    ∃XD h' F',k XD h'∧Rel c {st with hp:=h'} a w F' M∧(∀b,F b→F' b)∧sg h'=sg st.hp∧G0 F' w M (sg h') XD vs
  | [],st,F,vs,hr,hd,k,h=>by
    simp only[Of] at h;exact ⟨[],st.hp,F,h,hr,fun _ h=>h,rfl,hd⟩
  | d::ds,st,F,vs,hr,hd,k,h=>by
    cases vs with
    | nil=>have:=hd.1;simp at this
    | cons v vs=>
      simp only[Of] at h;have hd0:DR F w M (sg st.hp) d v:=by simpa [List.getD] using hd.2 0 d rfl
      obtain ⟨x,h1,F1,hk,D6,hF1,JT,hx⟩:=MV d hr hd0 h;have SG:G0 F1 w M (sg h1) ds vs:=by
        refine ⟨by have:=hd.1;simpa using this,fun i e he=>?_⟩;have:=hd.2 (i+1) e (by simpa using he);rw[JT];have h3:DR F w M (sg st.hp) e (vs.getD i undef):=by simpa [List.getD] using this
        exact h3.keep (fun _ _=>rfl) hF1 (Ba.refl _ _)
      obtain ⟨xs,h2,F2,HL,Fa,hF2,KN,Jo⟩:=H5 ds (st:={st with hp:=h1}) vs D6 SG hk;refine ⟨x::xs,h2,F2,HL,Fa,fun b hb=>hF2 b (hF1 b hb),KN.trans JT,by have:=Jo.1;simpa using this,fun i y hy=>?_⟩;cases i with
      | zero=>
        simp only[List.getElem?_cons_zero,Option.some.injEq] at hy;subst hy;have h4:=hx.keep (w':=w) (fun _ _=>rfl) hF2 (Ba.refl M (sg h1));rw[KN]
        simpa [List.getD] using h4
      | succ i=>simp only[List.getElem?_cons_succ] at hy;simpa [List.getD] using Jo.2 i y hy
end
theorem Pc (hr:Rel c st a w F M) (xs:List Operand):G0 F w M (sg st.hp) (xs.map (ev st)) (xs.map a.eval):=by
 refine ⟨by simp,fun i d hd=>?_⟩;rw[List.getElem?_map] at hd;cases hx:xs[i]? with
 | none=>rw[hx] at hd;cases hd
 | some x=>
   rw[hx] at hd;cases hd;rw[List.getD_eq_getElem?_getD,List.getElem?_map,hx];exact AF hr x
theorem Rj {hp:Hp} {t:TypeId} {x:D} {k:D→Prop} (h:Agq P hp t x k) {vx:Value} (hx:DR F w M (sg hp) x vx) (ts:Array TypeId) (ty:TypeId) (ht:ts[0]?=some t):
   ∃d v,k d∧DR F w M (sg hp) d v∧(Builtin.len_ ts ty #[vx]).run P w= .ok v w:=by
 unfold Agq at h;split at h
 case h_2=>exact h.elim
 rename_i ti h1;obtain ⟨i1,u1,z1,HP,Dr,_,rfl⟩:=Az h1;split at h
 · rename_i l hk;obtain rfl:=TK.of_string hk;cases hx with | p hx=>cases hx;exact ⟨_,_,h,.p (.int _ _),by simp[Builtin.len_,ht,run_underlying Dr,goInt,FZ]⟩
 · rename_i e es hk;obtain rfl:=TK.of_slice hk;cases hx with | p hx=>
     have:∃ad cap,vx= .slice ad es.length cap:=by cases hx<;>exact ⟨_,_,rfl⟩
     obtain ⟨ad,cap,rfl⟩:=this;exact ⟨_,_,h,.p (.int _ _),by simp[Builtin.len_,ht,run_underlying Dr,goInt]⟩
 · rename_i e es hk;obtain rfl:=TK.of_slice hk;cases hx with | cl _ ad hx _=>exact ⟨_,_,h,.p (.int _ _),by simp[Builtin.len_,ht,run_underlying Dr,goInt]⟩
 · rename_i e id off len N hk;obtain rfl:=TK.of_slice hk;cases hx with
   | ref _ _ _ _ sz n _ hs hN hv h2=>
     rw[hs] at h;obtain ⟨ad,cap,rfl,_⟩:=h2 h.1;exact ⟨_,_,h.2,.p (.int _ _),by simp[Builtin.len_,ht,run_underlying Dr,goInt]⟩
 · rename_i e id n hk;obtain rfl:=TK.of_slice hk;cases hx with
   | BS _ _ sz m kk _ hs hN hv h2=>
     obtain ⟨ad,cap,rfl,_⟩:=hv;exact ⟨_,_,h,.p (.int _ _),by simp[Builtin.len_,ht,run_underlying Dr,goInt]⟩
 · rename_i e id i len q hk;obtain rfl:=TK.of_slice hk;cases hx with
   | nr _ _ _ _ sz m kk _ hs hN hv h2=>
     obtain ⟨ad,cap,rfl⟩:=hv;exact ⟨_,_,h,.p (.int _ _),by simp[Builtin.len_,ht,run_underlying Dr,goInt]⟩
 · rename_i n e _ hk;obtain rfl:=TK.of_array hk;exact ⟨_,_,h,.p (.int _ _),by simp[Builtin.len_,ht,run_underlying Dr,goInt]⟩
 · exact h.elim
theorem WL {α:Type} {x:α} {f:Operand→α} {xs:Array Operand} (h:xs.toList.map f=[x]):∃q,xs=#[q]∧f q=x:=by
 obtain ⟨l⟩:=xs;simp only at h;cases l with
 | nil=>simp at h
 | cons q r=>
   cases r with
   | nil=>simp only[List.map_cons,List.map_nil,List.cons.injEq,and_true] at h;exact ⟨q,rfl,h⟩
   | cons _ _=>simp at h
theorem F7 {α:Type} {x y:α} {f:Operand→α} {xs:Array Operand} (h:xs.toList.map f=[x,y]):∃q r,xs=#[q,r]∧f q=x∧f r=y:=by
 obtain ⟨l⟩:=xs;simp only at h;cases l with
 | nil=>simp at h
 | cons q r=>
   cases r with
   | nil=>simp at h
   | cons q2 r2=>
     cases r2 with
     | nil=>simp only[List.map_cons,List.map_nil,List.cons.injEq,and_true] at h;exact ⟨q,q2,rfl,h.1,h.2⟩
     | cons _ _=>simp at h
theorem Lb (hr:Rel c st a w F M) {o:Oper} {cl:Call} {b:Builtin} (ho:o.op= .call cl) (hb:cl.callee= .builtin b) {q:Nat} {k:D→Hp→Prop}
   (h:Lc P st q b cl.argTypes (cl.args.toList.map (ev st)) k):
   ∃d h' v w' M',k d h'∧Rel c {st with hp:=h'} a w' F M'∧DR F w' M' (sg h') d v∧(execOp a.eval o).run P w= .ok (.value v) w':=by
 unfold Lc at h;generalize hl:cl.args.toList.map (ev st)=l at h;split at h
 ·
   rename_i x;obtain ⟨xq,Fk,rfl⟩:=WL hl;split at h
   case h_2=>exact h.elim
   rename_i t ht;obtain ⟨d,v,h1,h2,h3⟩:=Rj (P:=P) h (AF hr xq) cl.argTypes o.type ht;exact ⟨d,_,v,w,M,h1,hr,h2,by simp[execOp,ho,hb,resolve,invoke,builtin,Fk,h3]⟩
 ·
   rename_i s x;obtain ⟨sq,xq,Fk,rfl,rfl⟩:=F7 hl;split at h
   case h_2=>exact h.elim
   rename_i t t2 ht ht2;obtain ⟨d,h',v,w',M',h1,h2,h3,h4⟩:=ZZ (P:=P) (ty:=o.type) hr (AF hr sq) (AF hr xq) h;have e:Builtin.append_ cl.argTypes o.type #[a.eval sq,a.eval xq]=Builtin.append_ #[t,t2] o.type #[a.eval sq,a.eval xq]:=by
     simp[Builtin.append_,ht,ht2]
   exact ⟨d,h',v,w',M',h1,h2,h3,by simp[execOp,ho,hb,resolve,invoke,builtin,Fk,e,h4]⟩
 ·
   rename_i s x;obtain ⟨sq,xq,Fk,rfl,rfl⟩:=F7 hl;split at h
   case h_2=>exact h.elim
   rename_i t t2 ht ht2;obtain ⟨d,h',v,w',M',h1,h2,h3,h4⟩:=XO (P:=P) (t2:=t2) (ty:=o.type) hr (AF hr sq) (AF hr xq) h;have e:Builtin.copy_ cl.argTypes o.type #[a.eval sq,a.eval xq]=Builtin.copy_ #[t,t2] o.type #[a.eval sq,a.eval xq]:=by
     simp[Builtin.copy_,ht]
   exact ⟨d,h',v,w',M',h1,h2,h3,by simp[execOp,ho,hb,resolve,invoke,builtin,Fk,e,h4]⟩
 ·
   rename_i k1 x k2 y;obtain ⟨xq,yq,Fk,hx,hy⟩:=F7 hl;obtain ⟨rfl,hk⟩:=h;have h1:=AF hr xq;have h2:=AF hr yq;rw[hx] at h1;rw[hy] at h2;generalize Lu:a.eval xq=vx at h1;generalize hvy:a.eval yq=vy at h2;cases h1 with | p h1=>cases h1;cases h2 with | p h2=>
     cases h2;exact ⟨_,_,_,w,M,hk,hr,.p (.int _ _),by simp[execOp,ho,hb,resolve,invoke,builtin,Fk,Lu,hvy,run_min_int2]⟩
 ·
   rename_i k1 x k2 y;obtain ⟨xq,yq,Fk,hx,hy⟩:=F7 hl;obtain ⟨rfl,hk⟩:=h;have h1:=AF hr xq;have h2:=AF hr yq;rw[hx] at h1;rw[hy] at h2;generalize Lu:a.eval xq=vx at h1;generalize hvy:a.eval yq=vy at h2;cases h1 with | p h1=>cases h1;cases h2 with | p h2=>
     cases h2;exact ⟨_,_,_,w,M,hk,hr,.p (.int _ _),by simp[execOp,ho,hb,resolve,invoke,builtin,Fk,Lu,hvy,run_max_int2]⟩
 · exact h.elim
theorem Aay (hr:Rel c st a w F M) {o:Oper} {f:Operand} {args:List Operand} {g:FuncId} {cap:List D} {K:St→Prop} (ho:Bz o.op=some (f,args)) (hg:ev st f= .fn g cap)
   (hk:Fx P st.hp g (args.map (ev st)++cap) (o.dst.getD 0) fun d h'=>K (({st with hp:=h'}:St).put o.dst d)) (Q:Exit→Act→World→Prop):o.wp P a w (Good c K) Q:=by
 unfold Bz at ho;split at ho
 case h_2=>cases ho
 rename_i cl II;split at ho
 case h_2=>cases ho
 rename_i f' hf;simp only[Option.some.injEq,Prod.mk.injEq] at ho;obtain ⟨rfl,rfl⟩:=ho;have hfv:=AF hr f';rw[hg] at hfv;generalize hvf:a.eval f'=vf at hfv;cases hfv with
 | fn _ _ Sh hl hc=>
   have GL:=(Pc hr cl.args.toList).append (cs':=cap) (vs':=Sh.toList) ⟨by simpa using hl,fun i e he=>by have:=hc i e he;simpa [List.getD,Array.getD_eq_getD_getElem?] using this⟩;rcases P2 (vs:=cl.args.map a.eval++Sh) hr (by simpa using GL) hk with ⟨Fc,Jt⟩ | ⟨v,w',FH,v',d,h2,F2,M2,hv',HL,Fa,Hw⟩
   · have BW:(execOp a.eval o).run P w= .ok (.enter g (cl.args.map a.eval++Sh)) w:=by
       simp only[execOp,II,hf,resolve,hvf,Deferred.ofValue,Sem.run_bind,Sem.run_pure,Result.andThen_ok,invoke,Array.empty_append];exact Fc
     unfold Oper.wp;rw[BW];refine Jt.mono ?_;rintro e w' ⟨v,d,h2,F2,M2,rfl,HL,Fa,Hw⟩;exact ⟨_,F2,M2,HL,Fa.put Hw o.dst⟩
   · have BW:(execOp a.eval o).run P w= .ok (.value v) w':=by
       simp only[execOp,II,hf,resolve,hvf,Deferred.ofValue,Sem.run_bind,Sem.run_pure,Result.andThen_ok,invoke,Array.empty_append];exact FH
     cases hv';unfold Oper.wp;rw[BW];exact ⟨_,F2,M2,HL,Fa.put Hw o.dst⟩
theorem Ox (hr:Rel c st a w F M) {s:Bool} {o:Oper} {K:St→Prop} (h:OA P s o K st) (Q:Exit→Act→World→Prop):o.wp P a w (Good c K) Q:=by
 have val:∀{d v},K (st.put o.dst d)→DR F w M (sg st.hp) d v→(execOp a.eval o).run P w= .ok (.value v) w→o.wp P a w (Good c K) Q:=by
   intro d v hk hd BW;unfold Oper.wp;rw[BW];exact ⟨_,F,M,hk,hr.put hd o.dst⟩
 have mop:Aut P c st a w F o (fun d h=>K (({st with hp:=h}:St).put o.dst d))→o.wp P a w (Good c K) Q:=by
   rintro ⟨d,h',v,w',F',M',hk,IZ,hF,hd,BW⟩;unfold Oper.wp;rcases BW with BW | ⟨rfl,BW⟩
   · rw[BW];exact ⟨_,F',M',hk,IZ.put hd o.dst⟩
   · rw[BW];exact ⟨_,F',M',hk,IZ.put hd o.dst⟩
 have other:(Ij P st o).all (fun x=>K (({st with hp:=x.2}:St).put o.dst x.1))→o.wp P a w (Good c K) Q:=by
   intro h;unfold Ij at h;split at h
   · rename_i cl ho;split at h
     · rename_i b hb;obtain ⟨d,h',v,w',M',hk,IZ,hd,BW⟩:=Lb hr ho hb (JI (k:=fun d h=>K (({st with hp:=h}:St).put o.dst d)) h);unfold Oper.wp;rw[BW];exact ⟨_,F,M',hk,IZ.put hd o.dst⟩
     · exact h.elim
   · exact mop (DQ hr (F6 h))
   · exact mop (DQ hr (F6 h))
   · exact mop (DQ hr (F6 h))
   · exact mop (DQ hr (F6 h))
   · exact mop (DQ hr (F6 h))
   · exact mop (DQ hr (F6 h))
   · exact mop (DQ hr (F6 h))
   · have h1:=Wd (Rs.AE (fun d hd=>hd.2) (Rs.all_bind h));obtain ⟨d,v,hk,hd,BW⟩:=Td hr h1;exact val hk hd BW
 unfold OA at h;split at h
 · rename_i f args ho;unfold Bz at ho;split at ho
   case h_2=>cases ho
   rename_i cl II;split at ho
   case h_2=>cases ho
   rename_i f' hf;simp only[Option.some.injEq,Prod.mk.injEq] at ho;obtain ⟨rfl,rfl⟩:=ho;rcases Rs.DL h with h | h
   case inr=>exact h.2 c a w F M Q hr
   have hfv:=AF hr f';unfold EP at h;split at h
   case h_2=>exact h.elim
   rename_i g cap he;rw[he] at hfv;generalize hvf:a.eval f'=vf at hfv;cases hfv with
   | fn _ _ Sh hl hc=>
     have GL:=(Pc hr cl.args.toList).append (cs':=cap) (vs':=Sh.toList) ⟨by simpa using hl,fun i e he=>by have:=hc i e he;simpa [List.getD,Array.getD_eq_getD_getElem?] using this⟩;have hb:=JK (k:=fun ds h=>JF (s=true∧Me P o K st) P h g ds (o.dst.getD 0) fun d h'=>K (({st with hp:=h'}:St).put o.dst d)) (Rs.AE (fun x hx=>hx.2) (Rs.all_bind h));obtain ⟨ds,h',F',hk,IZ,hF,hs,hds⟩:=H5 _ _ hr GL hb;rcases Pm hk with hk | hk
     case inr=>exact hk.2 c a w F M Q hr
     rcases P2 (vs:=cl.args.map a.eval++Sh) IZ (by simpa using hds) hk with ⟨Fc,Jt⟩ | ⟨v,w',FH,v',d,h2,F2,M2,hv',HL,Fa,Hw⟩
     · have BW:(execOp a.eval o).run P w= .ok (.enter g (cl.args.map a.eval++Sh)) w:=by
         simp only[execOp,II,hf,resolve,hvf,Deferred.ofValue,Sem.run_bind,Sem.run_pure,Result.andThen_ok,invoke,Array.empty_append];exact Fc
       unfold Oper.wp;rw[BW];refine Jt.mono ?_;rintro e w' ⟨v,d,h2,F2,M2,rfl,HL,Fa,Hw⟩;exact ⟨_,F2,M2,HL,Fa.put Hw o.dst⟩
     · have BW:(execOp a.eval o).run P w= .ok (.value v) w':=by
         simp only[execOp,II,hf,resolve,hvf,Deferred.ofValue,Sem.run_bind,Sem.run_pure,Result.andThen_ok,invoke,Array.empty_append];exact FH
       cases hv';unfold Oper.wp;rw[BW];exact ⟨_,F2,M2,HL,Fa.put Hw o.dst⟩
 · rcases Rs.DL h with h | h
   · exact other h
   · exact h.2 c a w F M Q hr
theorem PO (hr:Rel c st a w F M) {ops:Array Oper} {o:Oper} {yes no:Prop} (h:DC st ops.toList o.guard yes no):
   (Region.wanted o (yielded ops a.tmps)=true∧yes)∨(Region.wanted o (yielded ops a.tmps)=false∧no):=by
 unfold DC at h;split at h
 · rename_i hg;exact .inl ⟨by simp[Region.wanted,hg],h⟩
 · rename_i j want hg;have hyl:∀{d:D},((ops.toList[j]?).bind (·.dst)).bind (get st.env)=some d→∃t,(ops[j]?).bind (·.dst)=some t∧DR F w M (sg st.hp) d (a.tmps.getD t undef):=by
     intro d hd;rw[Array.getElem?_toList] at hd;cases ht:(ops[j]?).bind (·.dst) with
     | none=>rw[ht] at hd;cases hd
     | some t=>rw[ht] at hd;exact ⟨t,rfl,hr.env t d hd⟩
   split at h
   · rename_i b hb;obtain ⟨t,h1,h2⟩:=hyl hb;have hv:a.tmps[t]?=some (.bool b):=by
       generalize hq:a.tmps.getD t undef=v at h2;cases h2 with | p h2=>
         cases h2;rw[Array.getD_eq_getD_getElem?] at hq;cases hx:a.tmps[t]? with
         | none=>rw[hx] at hq;simp[undef] at hq
         | some u=>rw[hx] at hq;simp at hq;rw[hq]
     have hw:Region.wanted o (yielded ops a.tmps)=(b==want):=by
       simp only[Region.wanted,hg,yielded,h1,Option.bind_some,hv];cases b<;>cases want<;>rfl
     rw[hw];by_cases e:(b==want)=true
     · exact .inl ⟨e,h.1 e⟩
     · exact .inr ⟨by simpa using e,h.2 (by simpa using e)⟩
   · rename_i hb;obtain ⟨t,h1,h2⟩:=hyl hb;refine .inr ⟨?_,h⟩;simp only[Region.wanted,hg,yielded,h1,Option.bind_some];generalize hq:a.tmps.getD t undef=v at h2;cases h2 with
     | BA _ vs hl _=>
       rw[Array.getD_eq_getD_getElem?] at hq;cases hx:a.tmps[t]? with
       | none=>rfl
       | some u=>rw[hx] at hq;simp at hq;rw[hq];rfl
   · exact h.elim
theorem Rel.drew (hr:Rel c st a w F M):Rel c st a {w with drawn:=w.drawn+1} F M:=by
 have hs:=Ba.refl M (sg st.hp);refine ⟨fun t d ht=>(hr.env t d ht).keep (fun _ _=>rfl) (fun _ h=>h) hs,hr.size,hr.defers,hr.heap.keep (fun _ _=>rfl) (fun _ _=>rfl),?_⟩;have hk:=hr.keep;exact ⟨hk.os,hk.tape,hk.output,hk.size,hk.J5,hk.F0,hk.Fn,hk.Fl,hk.own,hk.Tm,hk.YN⟩
theorem Mg {Q:Exit→Act→World→Prop} {s:Bool} {K:St→Prop} (ops:Array Oper) (hQ:∀a w,Good c K a w→Q .normal a w):∀(l:List Oper) {st:St} {a:Act} {w:World} {F:Nat→Prop} {M:Nat→Mb},
   Rel c st a w F M→SJ P s ops.toList l K st→wpList P ops Q l a w
 | [],st,a,w,F,M,hr,h=>hQ _ _ ⟨st,F,M,h,hr⟩
 | o::rest,st,a,w,F,M,hr,h=>by
   simp only[SJ] at h;refine wpList_step fun KK hKK=>?_;have yes:OA P s o (SJ P s ops.toList rest K) st→o.wp P a w KK Q:=fun hy=>
     Oper.wp_mono (fun a' w' ⟨st',F',M',h1,h2⟩=>hKK _ _ (Mg ops hQ rest h2 h1)) (Ox hr hy Q)
   have no:SJ P s ops.toList rest K (st.put o.dst (.BA []))→KK (a.put o.dst undef) w:=fun hn=>
     hKK _ _ (Mg ops hQ rest (hr.put (.BA [] #[] rfl (fun i d hd=>by simp at hd)) o.dst) hn)
   rcases PO hr h with ⟨hw,hy⟩ | ⟨hw,hn⟩
   · rw[if_pos hw];exact yes hy
   · rw[if_neg (by rw[hw];simp)];exact no hn
theorem Afc {K:St→Prop} {Q:Exit→St→Prop} {e:Exit} {a:Act} {w:World} {N:Act→World→Prop} (hN:∀st F M,K st→Rel c st a w F M→N a w) (h:QC c (thn K Q) e a w):Exit.then N (QC c Q) e a w:=by
 obtain ⟨st,F,M,h1,h2⟩:=h;cases e<;>first
   | exact hN st F M h1 h2
   | exact ⟨st,F,M,h1,h2⟩
theorem Ar2 {id:Nat} {Q:Exit→St→Prop} {e:Exit} {a:Act} {w:World} (h:QC c (BU id Q) e a w):Exit.inBlock id (QC c Q) e a w:=by
 obtain ⟨st,F,M,h1,h2⟩:=h;cases e with
 | exit MA=>
   simp only[BU] at h1;simp only[Exit.inBlock];split at h1
   · rename_i e;rw[if_pos e];exact ⟨st,F,M,h1,h2⟩
   · rename_i e;rw[if_neg e];exact ⟨st,F,M,h1,h2⟩
 | _=>exact ⟨st,F,M,h1,h2⟩
theorem EY:∀(x:Code) {Q:Exit→St→Prop} {st:St} {a:Act} {w:World} {F:Nat→Prop} {M:Nat→Mb},Rel c st a w F M→wA P x Q st→x.wp P (QC c Q) a w
 | .skip,Q,st,a,w,F,M,hr,h=>wp_skip ⟨st,F,M,h,hr⟩
 | .label _,Q,st,a,w,F,M,hr,h=>wp_label ⟨st,F,M,h,hr⟩
 | .ret,Q,st,a,w,F,M,hr,h=>wp_ret ⟨st,F,M,h,hr⟩
 | .exit id,Q,st,a,w,F,M,hr,h=>wp_exit ⟨st,F,M,h,hr⟩
 | .goto l,Q,st,a,w,F,M,hr,h=>wp_goto ⟨st,F,M,h,hr⟩
 | .seq x y,Q,st,a,w,F,M,hr,h=>by
   simp only[wA] at h;exact wp_seq (Code.wp_mono (fun e a' w' hq=>Afc (fun st F M h1 h2=>EY y h2 h1) hq) (EY x hr h))
 | .cond q x y,Q,st,a,w,F,M,hr,h=>by
   simp only[wA] at h;have hq:=AF hr q;split at h
   · rename_i b hb;rw[hb] at hq;generalize hv:a.eval q=v at hq;cases hq with | p hq=>
       cases hq;exact wp_cond_split hv (fun e=>EY x hr (h.1 e)) (fun e=>EY y hr (h.2 e))
   · exact h.elim
 | .block id x,Q,st,a,w,F,M,hr,h=>by
   simp only[wA] at h;exact wp_block (Code.wp_mono (fun e a' w' hq=>Ar2 hq) (EY x hr h))
 | .loop x,Q,st,a,w,F,M,hr,h=>by
   simp only[wA] at h;obtain ⟨n,h⟩:=h;refine wp_loop_rounds n ?_;have key:∀(n:Nat) (st:St) (a:Act) (w:World) (F:Nat→Prop) (M:Nat→Mb),Rel c st a w F M→V5 (wA P x) Q n st→Code.rounds P x (QC c Q) n a w:=by
     intro n
     induction n with
     | zero=>intro st a w F M _ h;exact h.elim
     | succ n ih=>
       intro st a w F M hr h;rw[rounds_succ];obtain ⟨st1,D5,h⟩:=h;obtain ⟨F1,M1,D6⟩:=D5 c a w F M hr;exact Code.wp_mono (fun e a' w' hq=>Afc (fun st F M h1 h2=>ih st _ _ F M h2 h1) hq) (EY x D6 h)
   exact key n st a w F M hr h
 | .scope x,Q,st,a,w,F,M,hr,h=>by
   simp only[wA] at h;exact h c a w F M hr
 | .region id ops draw,Q,st,a,w,F,M,hr,h=>by
   simp only[wA] at h;rcases h with ⟨rfl,h⟩ | ⟨rfl,h⟩
   · exact wp_region_list (Mg ops (fun a' w' hg=>hg) ops.toList hr h)
   · exact h c a w F M hr
 | .rangeFunc ..,Q,st,a,w,F,M,hr,h=>by simp only[wA] at h
 | .refuse _,Q,st,a,w,F,M,hr,h=>by simp only[wA] at h
end
end Go.Am
namespace Go.Am
open Go
def PZ:Nat→List D→List (Nat×D)
 | _,[]=>[]
 | k,d::r=>(k,d)::PZ (k+1) r
def SN (P:Program) (st:St):List ResultVar→(List D→Prop)→Prop
 | [],k=>k []
 | .tmp t::r,k=>SN P st r fun ds=>k ((get st.env t).getD .bad::ds)
 | .cell t T::r,k=>TD P st.hp T ((get st.env t).getD .bad) fun d=>SN P st r fun ds=>k (d::ds)
def UF:List D→D
 | [d]=>d
 | ds=> .BA ds
def Mp (T:List Nat) (id:Nat):Option Nat:=if base≤id then (if id∈T then some id else none) else idx (T.filter (· <base)) 0 id
def pick (h:Hp) (ρ:Nat→Option Nat):List Nat→Hp
 | []=>[]
 | id::r=>match get h id,ρ id with
   | some o,some j=>(j,o.CA ρ)::pick h ρ r
   | _,_=>pick h ρ r
def No (h0:List Nat) (hp:Hp) (d:D) (R:Hp→D→Prop):Prop:=
 let T:=B9 hp (h0++d.ids)
 T.Nodup∧(T.all fun id=>(get hp id).isSome)=true∧(h0.all fun id=>base≤id&&T.contains id)=true∧(T.filter (· <base)).length≤base∧
 R (pick hp (Mp T) T) (d.CA (Mp T))
def R0 (h0:List Nat) (hp:Hp) (d:D) (R:Hp→D→Prop):Prop:=
 No h0 hp d R∨Db hp d fun d' h'=>No h0 h' d' R
def Ay1 (P:Program) (fn:Func) (h0:List Nat) (R:Hp→D→Prop):Exit→St→Prop
 | .normal,st | .ret,st=>SN P st fn.results.toList fun ds=>R0 h0 st.hp (UF ds) R
 | _,_=>False
section
variable {P:Program} {c:Ctx} {st:St} {a:Act} {w:World} {F:Nat→Prop} {M:Nat→Mb}
theorem T1:∀(ds:List D) (k t:Nat) (d:D),get (PZ k ds) t=some d→k≤t∧ds[t - k]?=some d
 | [],k,t,d,h=>by simp[PZ,get] at h
 | x::r,k,t,d,h=>by
   simp only[PZ,AI] at h;split at h
   · rename_i e;cases h;subst e;exact ⟨Nat.le_refl _,by simp⟩
   · obtain ⟨h1,h2⟩:=T1 r (k+1) t d h;exact ⟨by omega,by rw[show t - k=(t - (k+1))+1 from by omega];simpa using h2⟩
theorem Rel.start {h:Hp} {args:List D} {vs:Array Value} {n:Nat} (J2:HR F w M h) (M7:∀b,F b→b<w.heap.size) (Qc:∀id,sg h id≠none→base≤id) (hd:G0 F w M (sg h) args vs.toList) (hn:args.length≤n):
   Rel ⟨w,F,CL M h,M,sg h⟩ ⟨PZ 0 args,h,n⟩ {tmps:=vs++Array.replicate (n - vs.size) undef,defers:=[]} w F M:=by
 have hl:vs.size=args.length:=by simpa using hd.1
 refine ⟨fun t d ht=>?_,by simp;omega,rfl,J2,⟨rfl,rfl,rfl,Nat.le_refl _,fun _ _ _=>rfl,fun _ h=>h,fun _ h=> .inl h,M7,fun _ h=> .inl h,Ba.refl _ _,Qc⟩⟩;obtain ⟨_,h2⟩:=T1 args 0 t d ht;have h3:=hd.2 t d (by simpa using h2);have AL:=(List.getElem?_eq_some_iff.1 h2).1;have e:(vs++Array.replicate (n - vs.size) undef).getD t undef=vs.toList.getD t undef:=by
   rw[Array.getD_eq_getD_getElem?,List.getD_eq_getElem?_getD,Array.getElem?_append,if_pos (by omega),Array.getElem?_toList]
 rw[e];exact h3
theorem Mr (hr:Rel c st a w F M):∀(rs:List ResultVar) {k:List D→Prop},SN P st rs k→
   ∃ds vs,k ds∧G0 F w M (sg st.hp) ds vs∧(rs.mapM fun | .tmp t=>pure (a.tmps.getD t undef) | .cell q t=>do loadVar t (←asAddr (a.tmps.getD q undef)):Sem (List Value)).run P w= .ok vs w
 | [],k,h=>⟨[],[],h,⟨rfl,fun i d hd=>by simp at hd⟩,by simp⟩
 | .tmp t::r,k,h=>by
   simp only[SN] at h;obtain ⟨ds,vs,h1,h2,h3⟩:=Mr hr r h;have hd:DR F w M (sg st.hp) ((get st.env t).getD .bad) (a.tmps.getD t undef):=AF hr (.tmp t);refine ⟨_,a.tmps.getD t undef::vs,h1,⟨by simp[h2.1],fun i d Vm=>?_⟩,?_⟩
   · cases i with
     | zero=>simp only[List.getElem?_cons_zero,Option.some.injEq] at Vm;subst Vm;simpa [List.getD] using hd
     | succ i=>simp only[List.getElem?_cons_succ] at Vm;simpa [List.getD] using h2.2 i d Vm
   · rw[List.mapM_cons,Sem.run_bind,Sem.run_pure,Result.andThen_ok,Sem.run_bind,h3];rfl
 | .cell t T::r,k,h=>by
   simp only[SN] at h;have hd:DR F w M (sg st.hp) ((get st.env t).getD .bad) (a.tmps.getD t undef):=AF hr (.tmp t);obtain ⟨d,v,h4,h5,h6⟩:=PH hr.heap h hd;obtain ⟨ds,vs,h1,h2,h3⟩:=Mr hr r h4;refine ⟨_,v::vs,h1,⟨by simp[h2.1],fun i d Vm=>?_⟩,?_⟩
   · cases i with
     | zero=>simp only[List.getElem?_cons_zero,Option.some.injEq] at Vm;subst Vm;simpa [List.getD] using h5
     | succ i=>simp only[List.getElem?_cons_succ] at Vm;simpa [List.getD] using h2.2 i d Vm
   · have h7:(do loadVar T (←asAddr (a.tmps.getD t undef)):Sem Value).run P w= .ok v w:=by
       generalize a.tmps.getD t undef=x at h6;cases x<;>simp[Instr.loadAt,Instr.sureAddr] at h6;rename_i ad;cases ad<;>simp[Instr.sureAddr] at h6
       simpa [asAddr] using h6
     rw[List.mapM_cons,Sem.run_bind,h7,Result.andThen_ok,Sem.run_bind,h3];rfl
theorem YB {s:Nat→Option Sg} {ds:List D} {vs:List Value} (h:G0 F w M s ds vs):DR F w M s (UF ds) (if hx:vs.toArray.size=1 then vs.toArray[0] else .tuple vs.toArray):=by
 have hl:=h.1;have BA:ds.length≠1→UF ds= .BA ds:=by
   intro BC;cases ds with
   | nil=>rfl
   | cons d r=>cases r with
     | nil=>simp at BC
     | cons _ _=>rfl
 by_cases e:ds.length=1
 · obtain ⟨d,rfl⟩:=List.length_eq_one_iff.1 e;obtain ⟨v,rfl⟩:=List.length_eq_one_iff.1 (hl.trans e);have:=h.2 0 d rfl
   simpa [UF,List.getD] using this
 · rw[BA e,dif_neg (by simp;omega)];exact .BA ds vs.toArray (by simpa using hl) (fun i d hd=>by have:=h.2 i d hd;simpa [List.getD,Array.getD_eq_getD_getElem?] using this)
theorem IL {h:Hp} {ρ:Nat→Option Nat}:∀{T:List Nat} {j:Nat} {o:AO},get (pick h ρ T) j=some o→∃id o2,id∈T∧ρ id=some j∧get h id=some o2∧o=o2.CA ρ
 | [],j,o,hg=>by simp[pick,get] at hg
 | id::r,j,o,hg=>by
   simp only[pick] at hg;split at hg
   · rename_i o2 k ho hk;rw[AI] at hg;split at hg
     · rename_i e;subst e;cases hg;exact ⟨id,o2,by simp,hk,ho,rfl⟩
     · obtain ⟨i,o3,h1,h2⟩:=IL hg;exact ⟨i,o3,by simp[h1],h2⟩
   · obtain ⟨i,o3,h1,h2⟩:=IL hg;exact ⟨i,o3,by simp[h1],h2⟩
theorem PT {h:Hp} {ρ:Nat→Option Nat} (O1:∀i i' j,ρ i=some j→ρ i'=some j→i=i'):∀{T:List Nat} {id j:Nat} {o:AO},id∈T→ρ id=some j→get h id=some o→
   get (pick h ρ T) j=some (o.CA ρ)
 | [],id,j,o,hm,_,_=>by simp at hm
 | x::r,id,j,o,hm,hj,ho=>by
   simp only[pick];by_cases e:x=id
   · subst e;rw[ho,hj];simp[AI]
   · have hm':id∈r:=by
       rcases List.mem_cons.1 hm with h1 | h1
       · exact (e h1.symm).elim
       · exact h1
     have ih:=PT O1 hm' hj ho;split
     · rename_i o2 k SF hk;rw[AI,if_neg (fun e2=>e (O1 x id j (by rw[hk,e2]) hj))];exact ih
     · exact ih
theorem Afx {T:List Nat} (hlen:(T.filter (· <base)).length≤base) (i i' j:Nat) (h:Mp T i=some j) (h':Mp T i'=some j):i=i':=by
 unfold Mp at h h';by_cases e1:base≤i<;>by_cases e2:base≤i'
 · rw[if_pos e1] at h;rw[if_pos e2] at h';split at h<;>split at h'<;>simp_all
 · rw[if_pos e1] at h;rw[if_neg e2] at h';obtain ⟨p,rfl,hp⟩:=Hs _ _ _ _ h';split at h
   · simp only[Option.some.injEq] at h;have:=(List.getElem?_eq_some_iff.1 hp).1;omega
   · cases h
 · rw[if_neg e1] at h;rw[if_pos e2] at h';obtain ⟨p,rfl,hp⟩:=Hs _ _ _ _ h;split at h'
   · simp only[Option.some.injEq] at h';have:=(List.getElem?_eq_some_iff.1 hp).1;omega
   · cases h'
 · rw[if_neg e1] at h;rw[if_neg e2] at h';obtain ⟨p,rfl,hp⟩:=Hs _ _ _ _ h;obtain ⟨p',e3,hp'⟩:=Hs _ _ _ _ h';have:p=p':=by omega
   subst this;rw[hp] at hp';exact (Option.some.inj hp')
theorem Mq (hr:Rel c st a w F M) {h0:Hp} (Yn:c.s0=sg h0) (hO:∀b,c.O0 b↔CL c.M0 h0 b) {d:D} {v:Value} {R:Hp→D→Prop} (hd:DR F w M (sg st.hp) d v) (h:No (h0.map (·.1)) st.hp d R):
   ∃h' r M',R h' r∧HR F w M' h'∧DR F w M' (sg h') r v∧Akt c w F M' h':=by
 unfold No at h;generalize B9 st.hp (h0.map (·.1)++d.ids)=T at h;obtain ⟨hT,B4,h0T,hlen,hR⟩:=h;have O1:=Afx hlen
 let M':Nat→Mb:=fun j=>if base≤j then M j else M ((T.filter (· <base)).getD j 0)
 have hρ:∀id j,Mp T id=some j→id∈T∧M' j=M id:=by
   intro id j hj;unfold Mp at hj;by_cases e:base≤id
   · rw[if_pos e] at hj;split at hj
     · rename_i hm;simp only[Option.some.injEq] at hj;subst hj;exact ⟨hm,by simp only[M',if_pos e]⟩
     · cases hj
   · rw[if_neg e] at hj;obtain ⟨i,rfl,hi⟩:=Hs _ _ _ _ hj;have AL:=(List.getElem?_eq_some_iff.1 hi).1;refine ⟨(List.mem_filter.1 (List.mem_of_getElem? hi)).1,?_⟩;simp only[M'];rw[if_neg (by omega),List.getD_eq_getElem?_getD,Nat.zero_add,hi,Option.getD_some]
 have E9:∀id j,Mp T id=some j→sg st.hp id≠none→M' j=M id∧sg (pick st.hp (Mp T) T) j=sg st.hp id:=by
   intro id j hj hs;obtain ⟨hm,hM⟩:=hρ id j hj;refine ⟨hM,?_⟩;cases ho:get st.hp id with
   | none=>exact (hs (by simp[sg,ho])).elim
   | some o=>
     have:=PT O1 hm hj ho;simp[sg,this,ho,AO.YP]
 have A6:∀b,CL M' (pick st.hp (Mp T) T) b→CL M st.hp b:=by
   rintro b ⟨j,o,hj,ho⟩;obtain ⟨id,o2,hm,h1,h2,rfl⟩:=IL hj;rw[(hρ id j h1).2] at ho;exact ⟨id,o2,h2,(AO.Eb _ _ _ _).1 ho⟩
 refine ⟨_,_,M',hR,?_,hd.CA E9,?_⟩
 · constructor
   · intro j o hj;obtain ⟨id,o2,hm,h1,h2,rfl⟩:=IL hj;rw[(hρ id j h1).2];exact (hr.heap.obj id o2 h2).CA E9
   · intro j o j' o' b hj ET ho Lv;obtain ⟨id,o2,hm,h1,h2,rfl⟩:=IL hj;obtain ⟨MA,o2',hm',CO,EV,rfl⟩:=IL ET;rw[(hρ id j h1).2] at ho;rw[(hρ MA j' CO).2] at Lv;have:=hr.heap.inj id o2 MA o2' b h2 EV ((AO.Eb _ _ _ _).1 ho) ((AO.Eb _ _ _ _).1 Lv);subst this;rw[h1] at CO;exact Option.some.inj CO
 · have hk:=hr.keep;have Aqv:∀id,sg h0 id≠none→base≤id∧id∈T:=by
     intro id hs;have Di:id∈h0.map (·.1):=by
       clear Yn hO h0T hR
       induction h0 with
       | nil=>simp[sg,get] at hs
       | cons q r ih=>
         obtain ⟨k,o⟩:=q;simp only[List.map_cons,List.mem_cons];by_cases e:id=k
         · exact .inl e
         · right;apply ih
           simpa [sg,AI,Ne.symm e] using hs
     have:=List.all_eq_true.1 h0T id Di;simp only[Bool.and_eq_true,decide_eq_true_eq] at this;exact ⟨this.1,by simpa using this.2⟩
   have Vj:∀id,sg h0 id≠none→Mp T id=some id:=fun id hs=>by
     obtain ⟨h1,h2⟩:=Aqv id hs;unfold Mp;rw[if_pos h1,if_pos h2]
   refine ⟨hk.os,hk.tape,hk.output,hk.size,hk.J5,hk.F0,hk.Fn,hk.Fl,fun b hb=>hk.own b (A6 b hb),?_,hk.YN⟩;have EU:=hk.Tm;rw[Yn] at EU ⊢;refine ⟨fun id hi=>?_,fun id sz n hi=>?_,fun id sz n kk hi=>?_⟩
   · obtain ⟨h1,h2⟩:=EU.1 id hi;have h3:=E9 id id (Vj id (by rw[hi];simp)) (by rw[h1];simp);exact ⟨by rw[h3.2,h1],by rw[h3.1,h2]⟩
   · obtain ⟨n',h1,CO,h2⟩:=EU.2.1 id sz n hi;have h3:=E9 id id (Vj id (by rw[hi];simp)) (by rw[h1];simp);exact ⟨n',by rw[h3.2,h1],CO,fun e=>by rw[h3.1,h2 e]⟩
   · obtain ⟨n',k',h1,CO,Aqu,h2,EV⟩:=EU.2.2 id sz n kk hi;have h3:=E9 id id (Vj id (by rw[hi];simp)) (by rw[h1];simp);exact ⟨n',k',by rw[h3.2,h1],CO,Aqu,fun e=>by rw[h3.1];exact h2 e,fun e=>by rw[h3.1];exact EV e⟩
theorem Aex {f:FuncId} {fn:Func} {code:Code} {args:List D} {h:Hp} {R:Hp→D→Prop} {Q:Exit→St→Prop} (hf:P.funcs[f]?=some fn) (hb:fn.body=some code) (Fc:Enters P f)
   (hn:args.length≤fn.ntmps) (hQ:∀e st,Q e st→Ay1 P fn (h.map (·.1)) R e st) (hw:wA P code Q ⟨PZ 0 args,h,fn.ntmps⟩):Aj P f args h R:=by
 refine fun vs w F M J2 M7 Qc hd=> .inl ⟨Fc vs w,calls_of_wp hf hb (Code.wp_mono ?_ (EY code (Rel.start J2 M7 Qc hd hn) hw))⟩;rintro e a w' ⟨st,F',M',hq0,hr⟩;have hq:=hQ e st hq0;have key:SN P st fn.results.toList (fun ds=>R0 (h.map (·.1)) st.hp (UF ds) R)→a.defers=[]∧∃v,(results fn a.tmps).run P w'= .ok v w'∧
     ∃v2 h' r F' M',Ending.returned v=Ending.returned v2∧R h' r∧HR F' w' M' h'∧DR F' w' M' (sg h') r v2∧Akt ⟨w,F,CL M h,M,sg h⟩ w' F' M' h':=by
   intro Qd;obtain ⟨ds,vs2,h1,h2,h3⟩:=Mr hr _ Qd;have hv:=YB h2;refine ⟨hr.defers,(if hx:vs2.toArray.size=1 then vs2.toArray[0] else .tuple vs2.toArray),?_,?_⟩;rotate_left
   · rcases h1 with h1 | h1
     · obtain ⟨h',r,M2,h4,h5,h6,h7⟩:=Mq hr rfl (fun _=>Iff.rfl) hv h1;exact ⟨_,h',r,F',M2,rfl,h4,h5,h6,h7⟩
     · obtain ⟨d',EV,F2,h4,Fa,hF2,KN,Hw⟩:=MV _ hr hv h1;obtain ⟨h',r,M2,h4,h5,h6,h7⟩:=Mq Fa rfl (fun _=>Iff.rfl) Hw h4;exact ⟨_,h',r,F2,M2,rfl,h4,h5,h6,h7⟩
   · unfold results;rw[Sem.run_bind,Array.mapM_eq_mapM_toList,Sem.run_map];refine (congrArg (fun r=>(r.andThen fun a w'=>Result.ok a.toArray w').andThen fun (a:Array Value) w'=>Sem.run P (pure (if h:a.size=1 then a[0] else Value.tuple a)) w') h3).trans ?_;simp
 cases e<;>first
   | exact key hq
   | exact hq.elim
end
end Go.Am
namespace Go.Am
open Go
theorem nd.{u} {α:Sort u} {a b:α} (h:a=b):a=b:=h
def UQ (P:Program) (st:St):List ResultVar→Rs (List D)
 | []=> .ret True []
 | .tmp t::r=>(UQ P st r).bind fun ds=> .ret True ((get st.env t).getD .bad::ds)
 | .cell t T::r=>(KD P st.hp T ((get st.env t).getD .bad)).bind fun d=>(UQ P st r).bind fun ds=> .ret True (d::ds)
theorem QY {P:Program} {st:St}:∀{rs:List ResultVar} {k:List D→Prop},(UQ P st rs).all k→SN P st rs k
 | [],k,h=>h.2
 | .tmp t::r,k,h=>by
   simp only[UQ] at h;simp only[SN];exact QY (Rs.AE (fun ds hd=>hd.2) (Rs.all_bind h))
 | .cell t T::r,k,h=>by
   simp only[UQ] at h;simp only[SN];exact TC (Rs.AE (fun d hd=>QY (Rs.AE (fun ds hd=>hd.2) (Rs.all_bind hd))) (Rs.all_bind h))
inductive Kt where
 | user (Q:Exit→St→Prop)
 | fin (rs:List ResultVar) (h0:List Nat) (R:Hp→D→Prop)
 | seq (y:Code) (k:Kt)
 | BU (id:Nat) (k:Kt)
 | lp (x:Code) (n:Nat) (k:Kt)
def Kt.Df (P:Program):Kt→Exit→St→Prop
 | .user Q=>Q
 | .fin rs h0 R=>fun e st=>match e with
   | .normal | .ret=>(UQ P st rs).all fun ds=>R0 h0 st.hp (UF ds) R
   | _=>False
 | .seq y k=>thn (wA P y (k.Df P)) (k.Df P)
 | .BU id k=>Go.Am.BU id (k.Df P)
 | .lp x n k=>thn (V5 (wA P x) (k.Df P) n) (k.Df P)
def X (P:Program) (c:Code) (k:Kt) (st:St):Prop:=wA P c (k.Df P) st
def J (P:Program) (k:Kt) (e:Exit) (st:St):Prop:=k.Df P e st
def O (P:Program) (s:Bool) (ops rest:List Oper) (k:Kt) (st:St):Prop:=SJ P s ops rest (k.Df P .normal) st
def L (P:Program) (x:Code) (k:Kt) (n:Nat) (st:St):Prop:=V5 (wA P x) (k.Df P) n st
def Af (P:Program) (s:Bool) (ops rest:List Oper) (k:Kt) (o:Oper) (st:St) (r:Rs (D×Hp)):Prop:=
 r.HG (s=true∧Me P o (O P s ops rest k) st) fun x=>O P s ops rest k (({st with hp:=x.2}:St).put o.dst x.1)
def Cl (P:Program) (s:Bool) (ops rest:List Oper) (k:Kt) (o:Oper) (st:St) (r:Rs (FuncId×List D×Hp)):Prop:=
 r.HG (s=true∧Me P o (O P s ops rest k) st) fun x=>JF (s=true∧Me P o (O P s ops rest k) st) P x.2.2 x.1 x.2.1 (o.dst.getD 0) fun d h'=>O P s ops rest k (({st with hp:=h'}:St).put o.dst d)
def Do (P:Program) (s:Bool) (ops rest:List Oper) (k:Kt) (o:Oper) (st:St):Prop:=OA P s o (SJ P s ops rest (k.Df P .normal)) st
def Cn (P:Program) (x y:Code) (k:Kt) (st:St) (d:D):Prop:=match d with
 | .p (.bool b)=>Uz b (X P x k st) (X P y k st)
 | _=>False
inductive Gv where
 | yes | no | cond (b:Bool) | bad
def Ii (st:St) (ops:List Oper) (g:Option (Nat×Bool)):Gv:=
 match g with
 | none=> .yes
 | some (j,want)=>match ((ops[j]?).bind (·.dst)).bind (get st.env) with
   | some (.p (.bool b))=> .cond (b==want)
   | some (.BA [])=> .no
   | _=> .bad
def Gu (P:Program) (s:Bool) (ops rest:List Oper) (k:Kt) (o:Oper) (st:St):Gv→Prop
 | .yes=>Do P s ops rest k o st
 | .no=>O P s ops rest k (st.put o.dst (.BA []))
 | .cond b=>Uz b (Do P s ops rest k o st) (O P s ops rest k (st.put o.dst (.BA [])))
 | .bad=>False
section
variable {P:Program} {s:Bool} {ops rest l:List Oper} {k:Kt} {st:St} {x y:Code} {id i n:Nat} {o:Oper} {dst:Option Nat} {b:Bool}
theorem Ar6:X P .skip k st=J P k .normal st:=nd rfl
theorem Anq:X P (.label i) k st=J P k .normal st:=nd rfl
theorem Auq:X P .ret k st=J P k .ret st:=nd rfl
theorem Ar8:X P (.exit i) k st=J P k (.exit i) st:=nd rfl
theorem Ar7:X P (.goto i) k st=J P k (.goto i) st:=nd rfl
theorem Aup:X P (.seq x y) k st=X P x (.seq y k) st:=nd rfl
theorem Ar9 (c:Operand):X P (.cond c x y) k st=Cn P x y k st (ev st c):=nd rfl
theorem Anr:X P (.block id x) k st=X P x (.BU id k) st:=nd rfl
theorem Ako:X P (.region id l.toArray false) k st=O P true l l k st:=by
 unfold X O;simp[wA]
theorem VM (n:Nat) (h:L P x k n st):X P (.loop x) k st:=⟨n,h⟩
theorem Are:L P x k (n+1) st=∃st1,Wk st st1∧X P x (.lp x n k) st1:=nd rfl
theorem VN:J P (.seq y k) .normal st=X P y k st:=nd rfl
theorem Aep:J P (.seq y k) .ret st=J P k .ret st:=nd rfl
theorem Z3:J P (.seq y k) (.exit i) st=J P k (.exit i) st:=nd rfl
theorem Z2:J P (.seq y k) (.goto i) st=J P k (.goto i) st:=nd rfl
theorem VP:J P (.BU id k) .normal st=J P k .normal st:=nd rfl
theorem Aet:J P (.BU id k) .ret st=J P k .ret st:=nd rfl
theorem Z4:J P (.BU id k) (.exit i) st=if i=id then J P k .normal st else J P k (.exit i) st:=nd rfl
theorem Yb:J P (.lp x n k) .normal st=L P x k n st:=nd rfl
theorem Akv:J P (.lp x n k) .ret st=J P k .ret st:=nd rfl
theorem Aer:J P (.lp x n k) (.exit i) st=J P k (.exit i) st:=nd rfl
theorem Aus:O P s ops [] k st=J P k .normal st:=nd rfl
theorem Ard:O P s ops (o::rest) k st=Gu P s ops rest k o st (Ii st ops o.guard):=by
 unfold O Gu Ii;simp only[SJ,DC];cases o.guard with
 | none=>rfl
 | some g=>
   obtain ⟨j,want⟩:=g;simp only;cases ((ops[j]?).bind (·.dst)).bind (get st.env) with
   | none=>rfl
   | some d=>
     cases d with
     | p q=>cases q<;>rfl
     | BA cs=>cases cs<;>rfl
     | _=>rfl
theorem Arh:Gu P s ops rest k o st .yes=Do P s ops rest k o st:=nd rfl
theorem Auu:Gu P s ops rest k o st .no=O P s ops rest k (st.put o.dst (.BA [])):=nd rfl
theorem Ant:Gu P s ops rest k o st (.cond true)=Do P s ops rest k o st:=by simp[Gu]
theorem Aky:Gu P s ops rest k o st (.cond false)=O P s ops rest k (st.put o.dst (.BA [])):=by simp[Gu]
theorem Auz:Do P s ops rest k o st=match Bz o.op with
   | some (f,args)=>Cl P s ops rest k o st (EP st f args)
   | none=>Af P s ops rest k o st (Ij P st o):=by
 unfold Do OA Cl Af;cases Bz o.op<;>rfl
theorem Arw (p:Prop) (d:D) (h:Hp):Af P s ops rest k o st (.ret p (d,h))=(p∧O P s ops rest k (({st with hp:=h}:St).put o.dst d)):=nd rfl
theorem Ao4 (r r2:Rs (D×Hp)):Af P s ops rest k o st (.split true r r2)=Af P s ops rest k o st r:=by simp[Af,Rs.HG]
theorem Al4 (r r2:Rs (D×Hp)):Af P s ops rest k o st (.split false r r2)=Af P s ops rest k o st r2:=by simp[Af,Rs.HG]
theorem Ao0:Cn P x y k st (.p (.bool true))=X P x k st:=by simp[Cn]
theorem Al2:Cn P x y k st (.p (.bool false))=X P y k st:=by simp[Cn]
theorem AK (h1:b=true→X P x k st) (h2:b=false→X P y k st):Cn P x y k st (.p (.bool b)):=⟨h1,h2⟩
def Sm (P:Program) (s:Bool) (ops rest:List Oper) (k:Kt) (o:Oper) (st:St):Prop:=s=true∧Me P o (O P s ops rest k) st
def Ck (P:Program) (s:Bool) (ops rest:List Oper) (k:Kt) (dst:Option Nat) (st:St) (f:FuncId) (ds:List D) (h:Hp) (T:List Nat) (S:Prop):Prop:=
 (Aj P f (F3 (idx T base) ds) (sub h (idx T base) base T) fun h' r=>fresh (dst.getD 0) h h'∧O P s ops rest k (({st with hp:=merge T (dst.getD 0) h h'}:St).put dst (r.CA (back T (dst.getD 0)))))∨S
theorem Aru (p:Prop) (f:FuncId) (ds:List D) (h:Hp):Cl P s ops rest k o st (.ret p (f,ds,h))=
   (p∧(B9 h (Ai ds)).Nodup∧((B9 h (Ai ds)).all fun id=>(get h id).isSome)=true∧Ck P s ops rest k o.dst st f ds h (B9 h (Ai ds)) (Sm P s ops rest k o st)):=nd rfl
def En (P:Program) (h0:List Nat) (R:Hp→D→Prop) (hp:Hp) (r:Rs (List D)):Prop:=r.all fun ds=>R0 h0 hp (UF ds) R
theorem Aes (rs:List ResultVar) (h0:List Nat) (R:Hp→D→Prop):J P (.fin rs h0 R) .ret st=En P h0 R st.hp (UQ P st rs):=nd rfl
theorem VO (rs:List ResultVar) (h0:List Nat) (R:Hp→D→Prop):J P (.fin rs h0 R) .normal st=En P h0 R st.hp (UQ P st rs):=nd rfl
theorem Art (h0:List Nat) (R:Hp→D→Prop) (hp:Hp) (p:Prop) (ds:List D):En P h0 R hp (.ret p ds)=(p∧R0 h0 hp (UF ds) R):=nd rfl
theorem Ajo {h0:List Nat} {hp:Hp} {d:D} {R:Hp→D→Prop} (h:No h0 hp d R):R0 h0 hp d R:= .inl h
theorem Adq {h0:List Nat} {hp:Hp} {d:D} {R:Hp→D→Prop} (h:(Bk hp d).all fun x=>No h0 x.2 x.1 R):R0 h0 hp d R:= .inr (Po (k:=fun d h=>No h0 h d R) h)
theorem Ak {f:FuncId} {fn:Func} {code:Code} {args:List D} {h:Hp} {R:Hp→D→Prop} (hf:P.funcs[f]?=some fn) (hb:fn.body=some code) (Fc:Enters P f)
   (hn:args.length≤fn.ntmps) (hw:X P code (.fin fn.results.toList (h.map (·.1)) R) ⟨PZ 0 args,h,fn.ntmps⟩):Aj P f args h R:=by
 refine Aex hf hb Fc hn (fun e st h1=>?_) hw;cases e<;>first
   | exact QY h1
   | exact h1.elim
theorem An {x:Int} (h0:-9223372036854775808≤x) (h1:x≤9223372036854775807):IntKind.i64.wrap x=x:=by rw[IntKind.wrap_i64];omega
attribute [go_sem] Ar6 Anq Auq Ar8 Ar7 Aup Ar9 Anr Ako VN Aep Z3 Z2 VP Aet Z4 Yb Akv Aer Aus Ard Arh Auu Ant Aky Auz Arw Ao4 Al4 Ao0 Al2 Aru Aes VO Art Ii Bz EP Ij H7 Jj C7 Y6 Sp Bk D3 Sv UJ K8 H9 QO SP F4 N1 Sl FA Cu Vc Ew Vs Ez r9 l8 unR Ang s7 KD ON Tv UQ Rs.bind Rs.and get ev St.put Ae UF GS LP D.one D.cells D.stored TK.isAgg chunk froze PZ Ee Jf Ai D.ids ghost O9 B9 Dn GK AO.ids idx sub ZO
attribute [go_sem] Dv Apn TK.Amb D.Agy UU List.isEmpty_cons List.isEmpty_nil Bool.and_false Bool.false_and Option.some.injEq reduceCtorEq if_true if_false
attribute [go_sem] RY K9 ID npT D.U9 List.any_cons List.any_nil Bool.or_self Bool.false_or Bool.or_false Bool.true_or Bool.or_true Bool.false_eq_true
attribute [go_sem] List.getElem?_toArray List.size_toArray true_and and_true Option.getD_some Option.getD_none Nat.zero_add List.map_cons List.map_nil Option.bind_some Option.bind_none List.getElem?_cons_zero List.getElem?_cons_succ List.getElem?_nil List.length_cons List.length_nil List.cons_append List.nil_append List.append_nil List.all_cons List.all_nil Bool.and_self Option.isSome_some List.nodup_nil List.drop_zero List.take_zero List.drop_succ_cons List.take_succ_cons List.drop_nil List.take_nil beq_self_eq_true beq_true beq_false Bool.not_true Bool.not_false Option.map_some Option.map_none Bool.true_and Bool.and_true List.replicate_succ List.replicate_zero ne_eq not_false_eq_true not_true_eq_false and_self
end
end Go.Am
namespace Go.Am
open Go
def L7 (o:Op):Bool:=
 match o with
 | .call c=>match c.callee with
   | .builtin .len | .builtin .min | .builtin .max=>true
   | _=>false
 | .alloc _ | .box _ _ | .store _ _ _ | .buildSlice _ _ _ | .makeSlice _ _ _ | .makeMap _ _ | .mapUpdate _ _ _ _=>false
 | _=>true
section
variable {P:Program} {c:Ctx} {st:St} {a:Act} {w:World} {F:Nat→Prop} {M:Nat→Mb}
theorem Abg (hr:Rel c st a w F M) {o:Oper} (hv:L7 o.op=true) {K:St→Prop} (h:OA P false o K st):
   ∃d v,K (st.put o.dst d)∧DR F w M (sg st.hp) d v∧(execOp a.eval o).run P w= .ok (.value v) w:=by
 have hn:Bz o.op=none:=by
   cases ho:o.op<;>simp only[ho,L7] at hv<;>simp only[Bz];rename_i cl;cases hc:cl.callee<;>simp only[hc] at hv
   · exact (Bool.false_ne_true hv).elim
   · rfl
   · rfl
 unfold OA at h;rw[hn] at h;simp only at h;rcases Rs.DL h with h | h
 case inr=>exact (Bool.false_ne_true h.1).elim
 unfold Ij at h;split at h
 · rename_i cl ho;rw[ho] at hv;split at h
   · rename_i b hb;have hbb:=JI (k:=fun d h=>K (({st with hp:=h}:St).put o.dst d)) h;simp only[L7,hb] at hv;unfold Lc at hbb;generalize hl:cl.args.toList.map (ev st)=l at hbb;split at hbb
     · obtain ⟨xq,Fk,rfl⟩:=WL hl;split at hbb
       case h_2=>exact hbb.elim
       rename_i t ht;obtain ⟨d,v,h1,h2,h3⟩:=Rj (P:=P) hbb (AF hr xq) cl.argTypes o.type ht;exact ⟨d,v,h1,h2,by simp[execOp,ho,hb,resolve,invoke,builtin,Fk,h3]⟩
     · simp at hv
     · simp at hv
     · obtain ⟨d,h',v,w',M',hk,IZ,hd,BW⟩:=Lb hr ho hb (JI (k:=fun d h=>K (({st with hp:=h}:St).put o.dst d)) h);rename_i k1 x k2 y;obtain ⟨xq,yq,Fk,hx,hy⟩:=F7 hl;obtain ⟨rfl,hk⟩:=hbb;have h1:=AF hr xq;have h2:=AF hr yq;rw[hx] at h1;rw[hy] at h2;generalize Lu:a.eval xq=vx at h1;generalize hvy:a.eval yq=vy at h2;cases h1 with | p h1=>cases h1;cases h2 with | p h2=>
         cases h2;exact ⟨_,_,hk,.p (.int _ _),by simp[execOp,ho,hb,resolve,invoke,builtin,Fk,Lu,hvy,run_min_int2]⟩
     · rename_i k1 x k2 y;obtain ⟨xq,yq,Fk,hx,hy⟩:=F7 hl;obtain ⟨rfl,hk⟩:=hbb;have h1:=AF hr xq;have h2:=AF hr yq;rw[hx] at h1;rw[hy] at h2;generalize Lu:a.eval xq=vx at h1;generalize hvy:a.eval yq=vy at h2;cases h1 with | p h1=>cases h1;cases h2 with | p h2=>
         cases h2;exact ⟨_,_,hk,.p (.int _ _),by simp[execOp,ho,hb,resolve,invoke,builtin,Fk,Lu,hvy,run_max_int2]⟩
     · exact hbb.elim
   · exact h.elim
 · rename_i ho;rw[ho] at hv;simp[L7] at hv
 · rename_i ho;rw[ho] at hv;simp[L7] at hv
 · rename_i ho;rw[ho] at hv;simp[L7] at hv
 · rename_i ho;rw[ho] at hv;simp[L7] at hv
 · rename_i ho;rw[ho] at hv;simp[L7] at hv
 · rename_i ho;rw[ho] at hv;simp[L7] at hv
 · rename_i ho;rw[ho] at hv;simp[L7] at hv
 · have h1:=Wd (Rs.AE (fun d hd=>hd.2) (Rs.all_bind h));exact Td hr h1
end
end Go.Am
namespace Go.Am
open Go
mutual
theorem OG {ρ:Nat→Option Nat}:∀{d:D},(∀id∈d.ids,ρ id=some id)→d.CA ρ=d
  | .p _,_=>rfl
  | .agg cs,h=>by simp only[D.CA];rw[Np (cs:=cs) h]
  | .BA cs,h=>by simp only[D.CA];rw[Np (cs:=cs) h]
  | .cl _,_=>rfl
  | .cz _,_=>rfl
  | .ref id _ _ _,h=>by simp only[D.CA];rw[h id (by simp[D.ids])]
  | .ptr id _,h=>by simp only[D.CA];rw[h id (by simp[D.ids])]
  | .pe _,_=>rfl
  | .ea id _ _ _,h=>by simp only[D.CA];rw[h id (by simp[D.ids])]
  | .fn f cs,h=>by simp only[D.CA];rw[Np (cs:=cs) h]
  | .np,_=>rfl
  | .mv id,h=>by simp only[D.CA];rw[h id (by simp[D.ids])]
  | .BS id _,h=>by simp only[D.CA];rw[h id (by simp[D.ids])]
  | .J6 id _ _,h=>by simp only[D.CA];rw[h id (by simp[D.ids])]
  | .nr id _ _ _,h=>by simp only[D.CA];rw[h id (by simp[D.ids])]
  | .Pu,_=>rfl
  | .bad,_=>rfl
theorem Np {ρ:Nat→Option Nat}:∀{cs:List D},(∀id∈Ai cs,ρ id=some id)→F3 ρ cs=cs
  | [],_=>rfl
  | d::r,h=>by
    simp only[F3];rw[OG (d:=d) (fun id hi=>h id (by simp[Ai,hi])),Np (cs:=r) (fun id hi=>h id (by simp[Ai,hi]))]
end
def AG (env:List (Nat×D)):List (Nat×D)→Prop
 | []=>True
 | (t,d)::r=>get env t=some d∧AG env r
def Av (h:Hp):Hp→Prop
 | []=>True
 | (id,o)::r=>get h id=some o∧Av h r
def Aa:List (Nat×D)→List Nat
 | []=>[]
 | (_,d)::r=>d.ids++Aa r
def Ac:Hp→List Nat
 | []=>[]
 | (_,o)::r=>o.ids++Ac r
def Ad (h1:Hp):Hp→Prop
 | []=>True
 | (id,o)::r=>(base≤id→get h1 id=some o)∧Ad h1 r
def Le (st st1:St):Prop:=
 st1.n=st.n∧AG st.env st1.env∧Av st.hp st1.hp∧((Aa st1.env++Ac st1.hp).all fun id=>(get st1.hp id).isSome)=true∧Ad st1.hp st.hp
theorem AG.spec {env:List (Nat×D)}:∀{e1:List (Nat×D)},AG env e1→∀t d,get e1 t=some d→get env t=some d
 | [],_,t,d,h=>by simp[get] at h
 | (k,x)::r,hl,t,d,h=>by
   rw[AI] at h;split at h
   · rename_i e;subst e;cases h;exact hl.1
   · exact hl.2.spec t d h
theorem Av.spec {h:Hp}:∀{h1:Hp},Av h h1→∀id o,get h1 id=some o→get h id=some o
 | [],_,t,d,hg=>by simp[get] at hg
 | (k,x)::r,hl,t,d,hg=>by
   rw[AI] at hg;split at hg
   · rename_i e;subst e;cases hg;exact hl.1
   · exact hl.2.spec t d hg
theorem Ad.spec {h1:Hp}:∀{h:Hp},Ad h1 h→∀id o,base≤id→get h id=some o→get h1 id=some o
 | [],_,t,d,_,hg=>by simp[get] at hg
 | (k,x)::r,hl,t,d,hb,hg=>by
   rw[AI] at hg;split at hg
   · rename_i e;subst e;cases hg;exact hl.1 hb
   · exact hl.2.spec t d hb hg
theorem RZ:∀{env:List (Nat×D)} {t:Nat} {d:D} {id:Nat},get env t=some d→id∈d.ids→id∈Aa env
 | [],t,d,id,h,_=>by simp[get] at h
 | (k,x)::r,t,d,id,h,hi=>by
   rw[AI] at h;simp only[Aa,List.mem_append];split at h
   · cases h;exact .inl hi
   · exact .inr (RZ h hi)
theorem OX:∀{h:Hp} {j:Nat} {o:AO} {id:Nat},get h j=some o→id∈o.ids→id∈Ac h
 | [],t,d,id,h,_=>by simp[get] at h
 | (k,x)::r,t,d,id,h,hi=>by
   rw[AI] at h;simp only[Ac,List.mem_append];split at h
   · cases h;exact .inl hi
   · exact .inr (OX h hi)
theorem AO.OG {ρ:Nat→Option Nat} {o:AO} (h:∀id∈o.ids,ρ id=some id):o.CA ρ=o:=by
 cases o with
 | box cs ty=>simp only[AO.CA];rw[Np (cs:=cs) h]
 | _=>rfl
theorem Wk.refl (st:St):Wk st st:=fun _ _ _ F M h=>⟨F,M,h⟩
theorem Wk.trans {a b c:St} (h:Wk a b) (h':Wk b c):Wk a c:=fun x y w F M hr=>let ⟨F1,M1,h1⟩:=h x y w F M hr;h' x y w F1 M1 h1
theorem Rel.forget {c:Ctx} {st st1:St} {a:Act} {w:World} {F:Nat→Prop} {M:Nat→Mb} (hr:Rel c st a w F M) (h:Le st st1):Rel c st1 a w F M:=by
 have hc:=hr.keep.YN;obtain ⟨hn,hE,hH,Aqk,hK⟩:=h;have L8:∀id,id∈Aa st1.env++Ac st1.hp→∃o,get st1.hp id=some o:=fun id hi=>Option.isSome_iff_exists.1 (List.all_eq_true.1 Aqk id hi)
 let ρ:Nat→Option Nat:=fun id=>if (get st1.hp id).isSome then some id else none
 have hρ:∀id j,ρ id=some j→sg st.hp id≠none→M j=M id∧sg st1.hp j=sg st.hp id:=by
   intro id j hj _;simp only[ρ] at hj;split at hj
   · rename_i hs;simp only[Option.some.injEq] at hj;subst hj;obtain ⟨o,ho⟩:=Option.isSome_iff_exists.1 hs;refine ⟨rfl,?_⟩;simp[sg,ho,hH.spec _ _ ho]
   · cases hj
 have hid:∀id,(∃o,get st1.hp id=some o)→ρ id=some id:=fun id ⟨o,ho⟩=>by simp[ρ,ho]
 constructor
 · intro t d ht;have:=(hr.env t d (hE.spec t d ht)).CA (M':=M) hρ;rwa[OG (fun id hi=>hid id (L8 id (List.mem_append_left _ (RZ ht hi))))] at this
 · rw[hn];exact hr.size
 · exact hr.defers
 · constructor
   · intro id o ho;have:=(hr.heap.obj id o (hH.spec id o ho)).CA (M':=M) hρ;rwa[AO.OG (fun i hi=>hid i (L8 i (List.mem_append_right _ (OX ho hi))))] at this
   · intro id o MA o' b ho Lv A6 CE;exact hr.heap.inj id o MA o' b (hH.spec _ _ ho) (hH.spec _ _ Lv) A6 CE
 · have hk:=hr.keep;refine ⟨hk.os,hk.tape,hk.output,hk.size,hk.J5,hk.F0,hk.Fn,hk.Fl,?_,?_,hk.YN⟩
   · rintro b ⟨id,o,ho,A6⟩;exact hk.own _ ⟨id,o,hH.spec _ _ ho,A6⟩
   · have EU:=hk.Tm;have AN:∀id,c.s0 id≠none→sg st.hp id≠none→sg st1.hp id=sg st.hp id:=by
       intro id h0 h1;have hb:=hc id h0;cases ho:get st.hp id with
       | none=>exact (h1 (by simp[sg,ho])).elim
       | some o=>simp[sg,ho,hK.spec id o hb ho]
     refine ⟨fun id hi=>?_,fun id sz n hi=>?_,fun id sz n kk hi=>?_⟩
     · obtain ⟨h1,h2⟩:=EU.1 id hi;exact ⟨by rw[AN id (by rw[hi];simp) (by rw[h1];simp)];exact h1,h2⟩
     · obtain ⟨n',h1,h2,h3⟩:=EU.2.1 id sz n hi;exact ⟨n',by rw[AN id (by rw[hi];simp) (by rw[h1];simp)];exact h1,h2,h3⟩
     · obtain ⟨n',k',h1,h2⟩:=EU.2.2 id sz n kk hi;exact ⟨n',k',by rw[AN id (by rw[hi];simp) (by rw[h1];simp)];exact h1,h2⟩
theorem Wk.forget {st st1:St} (h:Le st st1):Wk st st1:=fun _ _ _ F M hr=>⟨F,M,hr.forget h⟩
section
variable {P:Program} {st:St} {x:Code} {k:Kt}
theorem Wk.nil {t q sz:Nat} (e:TypeId) (ht:get st.env t=some (.cl [])) (hq:get st.hp q=none) (hs:0<sz):Wk st ⟨(t,.ref q 0 0 0)::st.env,(q,.arr e sz [])::st.hp,st.n⟩:=by
 intro c a w F M hr;obtain ⟨D6,h1⟩:=hr.Ra (e:=e) hq hs;refine ⟨F,_,⟨fun j d hj=>?_,D6.size,D6.defers,D6.heap,D6.keep⟩⟩;rw[AI] at hj;split at hj
 · rename_i e1;subst e1;cases hj;have h2:=hr.env _ _ ht;generalize a.tmps.getD t undef=v at h2;cases h2 with | cl _ ad _ _=>exact h1 ad
 · exact D6.env j d hj
theorem Aeo {st1:St} {n:Nat} (hw:Wk st st1) (h:L P x k n st1):L P x k n st:=by
 cases n with
 | zero=>exact h.elim
 | succ n=>obtain ⟨st2,h1,h2⟩:=h;exact ⟨st2,hw.trans h1,h2⟩
theorem Ao {β:Type} (S:β→St) (I:β→Prop) (μ:β→Nat) (b0:β) (h0:I b0) (hw:Wk st (S b0))
   (hs:∀b n,I b→(∀b' st',I b'→μ b'<μ b→Wk st' (S b')→L P x k n st')→X P x (.lp x n k) (S b)):X P (.loop x) k st:=by
 have key:∀n b,I b→μ b<n→L P x k n (S b):=by
   intro n
   induction n with
   | zero=>intro b _ h;exact (Nat.not_lt_zero _ h).elim
   | succ n ih=>
     intro b hb hm;exact ⟨S b,Wk.refl _,hs b n hb fun b' st' O6 AL D5=>Aeo D5 (ih b' O6 (by omega))⟩
 exact VM _ (Aeo hw (key (μ b0+1) b0 h0 (Nat.lt_succ_self _)))
end
end Go.Am
namespace Go.Am
open Go
def Rt (h0:List Nat) (hp:Hp) (d:D) (R:Hp→D→Prop) (T:List Nat):Prop:=
 T.Nodup∧(T.all fun id=>(get hp id).isSome)=true∧(h0.all fun id=>base≤id&&T.contains id)=true∧(T.filter (· <base)).length≤base∧
 R (pick hp (Mp T) T) (d.CA (Mp T))
theorem Alo (h0:List Nat) (hp:Hp) (d:D) (R:Hp→D→Prop):No h0 hp d R=Rt h0 hp d R (B9 hp (h0++d.ids)):=nd rfl
def Ep (h0:List Nat) (R:Hp→D→Prop) (r:Rs (D×Hp)):Prop:=r.all fun x=>No h0 x.2 x.1 R
theorem Ars (h0:List Nat) (R:Hp→D→Prop) (p:Prop) (d:D) (h:Hp):Ep h0 R (.ret p (d,h))=(p∧No h0 h d R):=nd rfl
theorem Ah {h0:List Nat} {hp:Hp} {d:D} {R:Hp→D→Prop} (h:Ep h0 R (Bk hp d)):R0 h0 hp d R:=Adq h
theorem Bc {h0:List Nat} {hp:Hp} {d:D} {R:Hp→D→Prop} (h:No h0 hp d R):R0 h0 hp d R:=Ajo h
theorem Aqw (h0:List Nat) (hp:Hp) (x:Pd) (R:Hp→D→Prop):R0 h0 hp (.p x) R=No h0 hp (.p x) R:=by
 unfold R0;simp only[Db,bor,or_self]
attribute [go_sem] Alo Ars Aqw D.CA F3
end Go.Am
end
