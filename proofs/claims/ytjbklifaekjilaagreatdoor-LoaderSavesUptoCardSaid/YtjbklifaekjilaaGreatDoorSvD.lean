/- Texts of this proof, what it rests on, merged: part D. -/
import Derived.Lib.ConvBytes
import Derived.Lib.OthersKept
import Derived.ScopeJumps
import Derived.Laws.IdiomStrings
import Derived.Lib.LaidTab
import Derived.Lib.ItoaNum
import Derived.Sort.Grow
import Derived.Deep.Draws
import Derived.Below
import Derived.LaidSub
import Derived.Test.YtjbklifaekjilaaGreatDoorSvC
section
set_option linter.unusedVariables false
set_option linter.unusedSimpArgs false
namespace Go.Am
open Go Go.ChangeShapes Go.RowKit
def wtF (p:Field→List Pd→Prop):List Field→List Pd→Prop
 | [],cs=>cs=[]
 | f::r,cs=>∃a b,cs=a++b∧p f a∧wtF p r b
def QF (P:Program):Nat→TypeId→List Pd→Prop
 | 0,_,_=>False
 | n+1,t,cs=>match P.underlying t with
   | some .bool=>∃b,cs=[.bool b]
   | some (.int k)=>∃v,cs=[.int k v]∧(Lit.int k v).wf=true
   | some .string=>∃l,cs=[.str l]
   | some (.slice e)=>∃es,cs=[.sl es]∧∀y∈es,QF P n e y
   | some (.struct fs)=>wtF (fun f=>QF P n f.type) fs.toList cs
   | some (.array k e)=>∃es:List (List Pd),cs=es.flatten∧es.length=k∧∀y∈es,QF P n e y
   | _=>False
mutual
def pdB:Pd→Nat
  | .int _ _=>1
  | .bool _=>1
  | .str l=>l.length+1
  | .sl es=>Nw es+1
def ES:List Pd→Nat
  | []=>0
  | x::r=>pdB x+ES r
def Nw:List (List Pd)→Nat
  | []=>0
  | x::r=>ES x+Nw r
end
theorem WD (a b:List Pd):ES (a++b)=ES a+ES b:=by
 induction a with
 | nil=>simp[ES]
 | cons x r ih=>simp only[List.cons_append,ES,ih];omega
section
variable {H:Type} {enc:TypeId×Value→H} {P:Program} {w:World} {spare:Nat→Bool} {held:Bool}
theorem V2 {p:Field→List Pd→Prop}:∀(fs:List Field) (xs:List (DataW H×List MemPlace)),xs.length=fs.length→(∀(i:Nat) f x,fs[i]?=some f→xs[i]?=some x→p f (B3 x.1))→wtF p fs (HA (xs.map (·.1)))
 | [],xs,hl,_=>by
   have:xs=[]:=List.eq_nil_of_length_eq_zero hl;subst this;rfl
 | f::r,xs,hl,h=>by
   cases xs with
   | nil=>simp at hl
   | cons x xs=>exact ⟨B3 x.1,HA (xs.map (·.1)),rfl,h 0 f x rfl rfl,V2 r xs (by simpa using hl) fun i g y hg hy=>h (i+1) g y (by simpa using hg) (by simpa using hy)⟩
theorem RS:∀(xs:List (DataW H×List MemPlace)),HA (xs.map (·.1))=(xs.map fun x=>B3 x.1).flatten
 | []=>rfl
 | x::r=>by simp only[List.map_cons,HA,List.flatten_cons,RS r]
theorem Ale:∀(m:Nat) (t:TypeId),CM P m t=true→∀(fuel:Nat) (cs:List Value) (x:DataW H×List MemPlace),
   DataW.trod enc P w 0 spare held fuel t cs=some x→QF P m t (B3 x.1):=by
 intro m
 induction m with
 | zero=>intro t h;simp[CM] at h
 | succ m ih=>
   intro t ht fuel cs x h;simp only[CM] at ht;simp only[QF];split at ht
   · rename_i hu;obtain ⟨b,rfl,rfl⟩:=DataW.trod_bool hu h;rw[hu];exact ⟨b,rfl⟩
   · rename_i k hu;obtain ⟨n,rfl,rfl,hw⟩:=DataW.trod_int hu h;rw[hu];exact ⟨n,rfl,hw⟩
   · rename_i hu;obtain ⟨s,rfl,rfl,_⟩:=DataW.trod_string hu h;rw[hu];exact ⟨_,rfl⟩
   · rename_i e hu;simp only[Bool.and_eq_true,decide_eq_true_eq] at ht;obtain ⟨hk,hpe⟩:=ht;rw[hu];rcases DataW.trod_slice hu h with ⟨rfl,rfl⟩ | ⟨a,len,cap,elems,rest,n,rfl,rfl,rfl,hb,hl,hc,hel,AN,_,_⟩
     · exact ⟨[],rfl,by simp⟩
     · refine ⟨elems.map fun x=>B3 x.1,by simp only[B3,T6],fun y hy=>?_⟩;obtain ⟨z,hz,rfl⟩:=List.mem_map.1 hy;obtain ⟨i,hi,rfl⟩:=List.mem_iff_getElem.1 hz;have:=AN i (by omega);rw[List.getElem?_eq_getElem hi] at this;obtain ⟨cs',h1,h2⟩:=Option.bind_eq_some_iff.1 this;exact ih e hpe _ _ _ h2
   · rename_i fs hu;simp only[Bool.and_eq_true,decide_eq_true_eq] at ht;rw[hu];obtain ⟨xs,n,rfl,rfl,hl,W0,AN⟩:=DataW.trod_struct hu h;simp only[B3];refine V2 fs.toList xs (by simpa using W0) fun i f x hf hx=>?_;have h1:=AN i f (by simpa using hf);rw[hx] at h1;exact ih f.type (List.all_eq_true.1 ht.2 f (List.mem_of_getElem? hf)) _ _ _ h1
   · rename_i k e hu;simp only[Bool.and_eq_true,decide_eq_true_eq] at ht;rw[hu];obtain ⟨xs,n,rfl,rfl,hl,W0,AN⟩:=DataW.trod_array hu h;refine ⟨xs.map fun x=>B3 x.1,by simp only[B3,RS],by simpa using W0,fun y hy=>?_⟩;obtain ⟨z,hz,rfl⟩:=List.mem_map.1 hy;obtain ⟨i,hi,rfl⟩:=List.mem_iff_getElem.1 hz;have h1:=AN i (by omega);rw[List.getElem?_eq_getElem hi] at h1;exact ih e ht.2 _ _ _ h1
   · cases ht
end
section
variable {P:Program} {n:Nat} {t:TypeId} {cs:List Pd}
theorem G9 {k:IntKind} (hu:P.underlying t=some (.int k)) (h:QF P n t cs):∃v,cs=[.int k v]∧(Lit.int k v).wf=true:=by
 cases n with
 | zero=>exact h.elim
 | succ n=>simpa only[QF,hu] using h
theorem Al7 (hu:P.underlying t=some .bool) (h:QF P n t cs):∃b,cs=[.bool b]:=by
 cases n with
 | zero=>exact h.elim
 | succ n=>simpa only[QF,hu] using h
theorem Af4 (hu:P.underlying t=some .string) (h:QF P n t cs):∃l,cs=[.str l]:=by
 cases n with
 | zero=>exact h.elim
 | succ n=>simpa only[QF,hu] using h
theorem b9 {e:TypeId} (hu:P.underlying t=some (.slice e)) (h:QF P n t cs):∃m es,cs=[.sl es]∧∀y∈es,QF P m e y:=by
 cases n with
 | zero=>exact h.elim
 | succ n=>
   simp only[QF,hu] at h;exact ⟨n,h⟩
theorem Z9 {fs:Array Field} (hu:P.underlying t=some (.struct fs)) (h:QF P n t cs):∃m,wtF (fun f=>QF P m f.type) fs.toList cs:=by
 cases n with
 | zero=>exact h.elim
 | succ n=>
   simp only[QF,hu] at h;exact ⟨n,h⟩
theorem Od {α:Type} (enc:α→List Pd):∀(es:List (List Pd)),(∀y∈es,∃x,y=enc x)→∃l:List α,es=l.map enc
 | [],_=>⟨[],rfl⟩
 | y::r,h=>by
   obtain ⟨x,hx⟩:=h y (by simp);obtain ⟨l,hl⟩:=Od enc r fun z hz=>h z (by simp[hz]);exact ⟨x::l,by simp[hx,hl]⟩
theorem Kq {α:Type} (enc:α→List Pd) (h1:∀x,1≤ES (enc x)):∀(l:List α),l.length≤Nw (l.map enc)∧∀x∈l,ES (enc x)≤Nw (l.map enc)
 | []=>⟨Nat.zero_le _,by simp⟩
 | y::r=>by
   obtain ⟨h2,h3⟩:=Kq enc h1 r;have h4:=h1 y;simp only[List.map_cons,Nw,List.length_cons];refine ⟨by omega,fun x hx=>?_⟩;rcases List.mem_cons.1 hx with rfl | hx
   · omega
   · have:=h3 x hx;omega
end
end Go.Am
namespace Go.Am
open Go
section
variable {P:Program} {ops rest:List Oper} {k:Kt} {st:St} {o:Oper}
theorem HJ (h:Me P o (O P true ops rest k) st):Af P true ops rest k o st .fail:=⟨rfl,h⟩
theorem Av2 {st1:St} (hw:Wk st st1) (h:Do P true ops rest k o st1):Af P true ops rest k o st .fail:=by
 refine HJ fun c a w F M Q hr=>?_;obtain ⟨F1,M1,D6⟩:=hw c a w F M hr;exact Ox D6 h Q
theorem Rel.Aw3 {c:Ctx} {a:Act} {w w':World} {F:Nat→Prop} {M:Nat→Mb} (hr:Rel c st a w F M) (hos:w'.os=w.os) (NM:w'.tape=w.tape) (Qe:w'.output=w.output)
   (CD:w'.heap.size=w.heap.size+1) (hold:∀b,b<w.heap.size→w'.heap[b]?=w.heap[b]?):Rel c st a w' (fun b=>F b∨b=w.heap.size) M:=by
 have hF:∀b,F b→w'.heap[b]?=w.heap[b]?:=fun b hb=>hold b (hr.keep.Fl b hb);have hs:=Ba.refl M (sg st.hp);refine ⟨fun t d ht=>(hr.env t d ht).keep hF (fun _ h=> .inl h) hs,hr.size,hr.defers,⟨fun id x hx=>?_,hr.heap.inj⟩,?_⟩
 · refine (hr.heap.obj id x hx).keep hF (fun _ h=> .inl h) hs fun b A6=>?_;have AL:=hr.heap.lt ⟨id,x,hx,A6⟩;refine ⟨hold _ AL,?_⟩;rintro (h | h)
   · exact hr.heap.Hl ⟨id,x,hx,A6⟩ h
   · omega
 · have hk:=hr.keep;refine ⟨hos.trans hk.os,NM.trans hk.tape,Qe.trans hk.output,by have:=hk.size;omega,fun b hb hO=>?_,fun b hb=> .inl (hk.F0 b hb),fun b hb=>?_,fun b hb=>?_,hk.own,hk.Tm,hk.YN⟩
   · rw[hold b (Nat.lt_of_lt_of_le hb hk.size)];exact hk.J5 b hb hO
   · rcases hb with hb | rfl
     · exact hk.Fn b hb
     · exact .inr (.inr hk.size)
   · rcases hb with hb | rfl
     · have:=hk.Fl b hb;omega
     · omega
theorem Yd {s d e:TypeId} {x:Operand} {z0 z1 z2:D} {n0 n1 n2 n3 b2:Nat} {l:List UInt8} (ho:o.op= .convert s d x) (hs:AT P s=some ⟨n0,n1,.string,z0⟩) (hd:AT P d=some ⟨n2,n3,.slice e,z1⟩) (he:AT P e=some ⟨1,b2,.int .u8,z2⟩)
   (hx:ev st x= .p (.str l)) (h:O P true ops rest k (st.put o.dst (.p (.sl (Co l))))):Af P true ops rest k o st .fail:=by
 refine HJ fun c a w F M Q hr=>?_;obtain ⟨_,u1,_,_,Dr,_,e1⟩:=Az hs;obtain ⟨_,u2,_,_,KL,_,e2⟩:=Az hd;obtain ⟨_,u3,_,_,hu3,_,e3⟩:=Az he;simp only[TI.mk.injEq] at e1 e2 e3;obtain rfl:=TK.of_string e1.2.2.1.symm;obtain rfl:=TK.of_slice e2.2.2.1.symm;obtain rfl:=TK.of_int e3.2.2.1.symm;have hv:=AF hr x;rw[hx] at hv;generalize Lu:a.eval x=v at hv;cases hv with | p hv=>cases hv with | str=>
 have BW:=Lib.run_convert_string_bytes (P:=P) w s d e ⟨l.toArray⟩ Dr KL hu3;have IZ:Rel c st a (Lib.bytesWorld w e ⟨l.toArray⟩) (fun b=>F b∨b=w.heap.size) M:=hr.Aw3 rfl rfl rfl (Lib.bytesWorld_size _ _ _) (fun b hb=>Lib.bytesWorld_at_old _ _ _ b hb);unfold Oper.wp;have hex:(execOp a.eval o).run P w= .ok (.value (.slice (some ⟨w.heap.size,0,none⟩) (⟨l.toArray⟩:ByteArray).size (grownCap w (⟨l.toArray⟩:ByteArray).size 0 e))) (Lib.bytesWorld w e ⟨l.toArray⟩):=by
   simp only[execOp,ho,Lu];simp[BW]
 rw[hex];refine ⟨_,_,_,h,IZ.put ?_ o.dst⟩;have hlen:(⟨l.toArray⟩:ByteArray).size=(Co l).length:=by simp[Co,FZ]
 rw[hlen];refine .p (.sl (Co l) w.heap.size 0 _ 1 _ e _ (.inr rfl) (Lib.bytesWorld_at_new _ _ _) (by have:=grownCap_ge w (Co l).length 0 e;exact this) (fun i y hy=>?_) (fun i y j q hy hq=>?_) (fun i y j q hy hq=>?_))
 · simp only[Co,List.getElem?_map] at hy;cases hb:l[i]? with
   | none=>rw[hb] at hy;cases hy
   | some b=>rw[hb] at hy;cases hy;rfl
 · simp only[Co,List.getElem?_map] at hy;cases hb:l[i]? with
   | none=>rw[hb] at hy;cases hy
   | some b=>
     rw[hb] at hy;cases hy;have AL:=(List.getElem?_eq_some_iff.1 hb).1;cases j with
     | succ j=>simp at hq
     | zero=>simp[Lib.bytesCells];omega
 · simp only[Co,List.getElem?_map] at hy;cases hb:l[i]? with
   | none=>rw[hb] at hy;cases hy
   | some b=>
     rw[hb] at hy;cases hy;have AL:=(List.getElem?_eq_some_iff.1 hb).1;cases j with
     | succ j=>simp at hq
     | zero=>
       simp only[List.getElem?_cons_zero,Option.some.injEq] at hq;subst hq;have:(Lib.bytesCells w e ⟨l.toArray⟩).getD (0+i*1+0) undef= .int .u8 b.toNat:=by
         rw[Array.getD_eq_getD_getElem?];simp[Lib.bytesCells,Array.getElem?_append,AL];have:=(List.getElem?_eq_some_iff.1 hb).2;rw[this]
       rw[this];exact .int _ _
theorem Al3 {t:TypeId} {x:Operand} {q:Nat} {n0 n1:Nat} {z0:D} {l:List UInt8} (ho:o.op= .range t x) (hq:o.dst=some q) (ht:AT P t=some ⟨n0,n1,.string,z0⟩) (hx:ev st x= .p (.str l)) (hn:get st.hp q=none)
   (h:O P true ops rest k (({st with hp:=(q,.iter l 0)::st.hp}:St).put (some q) (.ptr q 0))):Af P true ops rest k o st .fail:=by
 refine HJ fun c a w F M Q hr=>?_;obtain ⟨_,u1,_,_,Dr,_,e1⟩:=Az ht;simp only[TI.mk.injEq] at e1;obtain rfl:=TK.of_string e1.2.2.1.symm;have hv:=AF hr x;rw[hx] at hv;generalize Lu:a.eval x=v at hv;cases hv with | p hv=>cases hv with | str=>
 have AN:=Jv st.hp q (.iter l 0);have hM:∀j,j≠q→Du M q ⟨w.heap.size,0,[]⟩ j=M j:=fun j hj=>by simp[Du,hj]
 have HM:Du M q ⟨w.heap.size,0,[]⟩ q=⟨w.heap.size,0,[]⟩:=by simp[Du]
 have EU:=Em AN hM hn;have hold:∀b,b<w.heap.size→(w.iter ⟨l.toArray⟩ 0).heap[b]?=w.heap[b]?:=fun b hb=>alloc_old w _ b hb;have IZ:Rel c {st with hp:=(q,.iter l 0)::st.hp} a (w.iter ⟨l.toArray⟩ 0) F (Du M q ⟨w.heap.size,0,[]⟩):=by
   refine hr.change AN hM EU rfl rfl rfl (by simp[World.iter]) (fun b hb _=>hold b hb) ?_ (fun b hb=> .inr (by have:b=_:=hb;rw[this,HM];exact Nat.le_refl _));rw[HM];exact ⟨fun hF=>Nat.lt_irrefl _ (hr.keep.Fl _ hF),World.iter_heap _ _ _⟩
 unfold Oper.wp;have hex:(execOp a.eval o).run P w= .ok (.value (.pointer (some ⟨w.heap.size,0,none⟩))) (w.iter ⟨l.toArray⟩ 0):=by
   simp only[execOp,ho,Lu];simp[run_range_string w t ⟨l.toArray⟩ Dr]
 rw[hex];rw[←hq] at h;refine ⟨_,_,_,h,IZ.put ?_ o.dst⟩;have:=DR.ptr (F:=F) (w:=w.iter ⟨l.toArray⟩ 0) (M:=Du M q ⟨w.heap.size,0,[]⟩) (s:=sg ((q,.iter l 0)::st.hp)) q 0 (by rw[Bv AN];simp[AO.sg]);rwa[HM] at this
theorem Ao5 {it:Operand} {id:Nat} {l:List UInt8} {pos:Nat} (ho:o.op= .next it true) (hx:ev st it= .ptr id 0) (hg:get st.hp id=some (.iter l pos)) (ha:∀b∈l,b.toNat<128)
   (h1:∀(AL:pos<l.length),O P true ops rest k (({st with hp:=Ae st.hp id (.iter l (pos+1))}:St).put o.dst (.BA [.p (.bool true),.p (.int .i64 pos),.p (.int .i32 (l[pos]).toNat)])))
   (h2:¬pos<l.length→O P true ops rest k (st.put o.dst (.BA [.p (.bool false)]))):Af P true ops rest k o st .fail:=by
 refine HJ fun c a w F M Q hr=>?_;have hv:=AF hr it;rw[hx] at hv;generalize Lu:a.eval it=v at hv;cases hv with
 | ptr _ _ hs=>
   obtain ⟨JU,O5⟩:=hr.heap.obj id _ hg;unfold Oper.wp;by_cases AL:pos<l.length
   · have Ati:pos<(⟨l.toArray⟩:ByteArray).size:=by rw[FZ];exact AL
     have hb:((⟨l.toArray⟩:ByteArray)[pos]'Ati)=l[pos]:=by simp[ByteArray.getElem_eq_getElem_data]
     have BW:=Go.Lib.run_next_ascii_at (P:=P) w (M id).BU ⟨l.toArray⟩ pos o.type O5 Ati (by rw[hb];exact ha _ (List.getElem_mem AL));have hex:(execOp a.eval o).run P w= .ok (.value (.tuple #[.bool true,.int .i64 pos,.int .i32 (l[pos]).toNat])) (w.iterAt (M id).BU ⟨l.toArray⟩ (pos+1)):=by
       simp only[execOp,ho,Lu];simp[BW,hb]
     rw[hex];have Qh:(M id).BU<w.heap.size:=(Array.getElem?_eq_some_iff.1 O5).1;have AN:∀j,get (Ae st.hp id (.iter l (pos+1))) j=if j=id then some (.iter l (pos+1)) else get st.hp j:=A9 _ _ _
     have E9:=BZ AN hg rfl;have IZ:Rel c {st with hp:=Ae st.hp id (.iter l (pos+1))} a (w.iterAt (M id).BU ⟨l.toArray⟩ (pos+1)) F M:=by
       refine hr.change (M':=M) AN (fun _ _=>rfl) (by rw[E9];exact Ba.refl _ _) rfl rfl rfl (by simp[World.iterAt]) (fun b hb BC=>?_) ⟨JU,Go.Lib.iterAt_heap w _ _ _ _ O5⟩ (fun b hb=> .inl ⟨_,hg,hb⟩);have:b≠(M id).BU:=BC _ hg;simp[World.iterAt,Array.getElem?_setIfInBounds,Ne.symm this]
     refine ⟨_,_,_,h1 AL,IZ.put ?_ o.dst⟩;refine .BA _ _ rfl fun i d hd=>?_
     match i,hd with
     | 0,hd=>simp only[List.getElem?_cons_zero,Option.some.injEq] at hd;subst hd;exact .p (.bool true)
     | 1,hd=>simp only[List.getElem?_cons_succ,List.getElem?_cons_zero,Option.some.injEq] at hd;subst hd;exact .p (.int _ _)
     | 2,hd=>simp only[List.getElem?_cons_succ,List.getElem?_cons_zero,Option.some.injEq] at hd;subst hd;exact .p (.int _ _)
     | i+3,hd=>simp at hd
   · have BW:=Go.Lib.run_next_end_at (P:=P) w (M id).BU ⟨l.toArray⟩ pos o.type O5 (by rw[FZ];exact AL);have hex:(execOp a.eval o).run P w= .ok (.value (.tuple #[.bool false])) w:=by
       simp only[execOp,ho,Lu];simp[BW]
     rw[hex];refine ⟨_,_,_,h2 AL,hr.put ?_ o.dst⟩;refine .BA _ _ rfl fun i d hd=>?_
     match i,hd with
     | 0,hd=>simp only[List.getElem?_cons_zero,Option.some.injEq] at hd;subst hd;exact .p (.bool false)
     | i+1,hd=>simp at hd
end
end Go.Am
namespace Go.Am
open Go
theorem Wk.seal {st:St} {t id:Nat} {ty:TypeId} {xs:List Pd} {env1:List (Nat×D)} {hp1:Hp} (ht:get st.env t=some (.ptr id 0)) (ho:get st.hp id=some (.box (xs.map .p) ty)) (h1:get hp1 id=none) (hl:Le st ⟨env1,hp1,st.n⟩):
   Wk st ⟨(t,.pe xs)::env1,hp1,st.n⟩:=by
 intro c a w F M hr;have D6:=hr.forget hl;obtain ⟨JU,row,_,Bj,CD,Bd⟩:=hr.heap.obj id _ ho;have A6:CL M st.hp (M id).BU:=⟨id,_,ho,rfl⟩;have hLH:Av st.hp hp1:=hl.2.2.1;have hs:=Ba.refl M (sg hp1);refine ⟨fun b=>F b∨b=(M id).BU,M,⟨fun q d hq=>?_,D6.size,D6.defers,⟨fun j o hj=>?_,D6.heap.inj⟩,?_⟩⟩
 · rw[AI] at hq;split at hq
   · rename_i e;subst e;cases hq;have hv:=hr.env _ _ ht;generalize a.tmps.getD t undef=v at hv;cases hv with
     | ptr _ _ _=>
       refine .pe xs (M id).BU 0 row _ (0,0) (.inr rfl) Bj (fun j x hx=>?_) (fun j x hx=>?_)
       · have:=(List.getElem?_eq_some_iff.1 hx).1;simp at CD;omega
       · have:=(Bd.1 j (.p x) (by simp[hx])).1;rw[Nat.zero_add];cases this with | p hp=>exact hp.keep (fun _ _=>rfl) (fun _ h=> .inl h)
   · exact (D6.env q d hq).keep (fun _ _=>rfl) (fun _ h=> .inl h) hs
 · refine (D6.heap.obj j o hj).keep (fun _ _=>rfl) (fun _ h=> .inl h) hs fun b SF=>⟨rfl,?_⟩;rintro (h | h)
   · exact D6.heap.Hl ⟨j,o,hj,SF⟩ h
   · have:=hr.heap.inj j o id _ b (hLH.spec j o hj) ho SF h;subst this;simp only at hj;rw[h1] at hj;cases hj
 · have hk:=D6.keep;refine ⟨hk.os,hk.tape,hk.output,hk.size,hk.J5,fun b hb=> .inl (hk.F0 b hb),fun b hb=>?_,fun b hb=>?_,hk.own,hk.Tm,hk.YN⟩
   · rcases hb with hb | rfl
     · exact hk.Fn b hb
     · exact .inr (hr.keep.own _ A6)
   · rcases hb with hb | rfl
     · exact hk.Fl b hb
     · exact (Array.getElem?_eq_some_iff.1 Bj).1
section
variable {P:Program} {ops rest:List Oper} {k:Kt} {st:St} {o:Oper}
theorem Yc {t e:TypeId} {x lo:Operand} {z0:D} {n0 n1 n:Nat} {ti:TI} {xs:List Pd} {kd:IntKind} {L:Nat} (ho:o.op= .slice t x (some lo) none none) (ht:AT P t=some ⟨n0,n1,.array n e,z0⟩) (he:AT P e=some ti)
   (hx:ev st x= .pe xs) (Yt:ev st lo= .p (.int kd (L:Nat))) (hL:L<n) (Fk:xs.length=n*ti.size) (CD:0<ti.size)
   (h:O P true ops rest k (st.put o.dst (.p (.sl ((chunk ti.size n xs).drop L))))):Af P true ops rest k o st .fail:=by
 refine HJ fun c a w F M Q hr=>?_;obtain ⟨_,u1,_,_,Dr,_,e1⟩:=Az ht;simp only[TI.mk.injEq] at e1;obtain rfl:=TK.of_array e1.2.2.1.symm;obtain ⟨i2,u2,z2,C0,KL,_,rfl⟩:=Az he;simp only at Fk CD h;have hv:=AF hr x;rw[hx] at hv;generalize Lu:a.eval x=v at hv;have SX:=AF hr lo;rw[Yt] at SX;generalize Awh:a.eval lo=vl at SX;cases SX with | p SX=>cases SX with | int=>
 cases hv with
 | pe _ b off row ty fr hF hh hi hp=>
   unfold Oper.wp;have hex:(execOp a.eval o).run P w= .ok (.value (.slice (some ⟨b,off+L*i2.size,none⟩) (n - L) (n - L))) w:=by
     have BC:¬n=L:=by omega
     simp only[execOp,ho,Lu,Awh,Option.map_some,Option.map_none];simp[Instr.sliceAt,Instr.sureAddr,Instr.sliceBounds,Instr.sliceBound,asIntOf,run_underlying Dr,BE C0,BC,Addr.add_lit];omega
   rw[hex];refine ⟨_,_,_,h,hr.put ?_ o.dst⟩;have hlen:((chunk i2.size n xs).drop L).length=n - L:=by rw[List.length_drop,GZ]
   have AN:∀(i:Nat) y,((chunk i2.size n xs).drop L)[i]?=some y→L+i<n∧y=(xs.drop ((L+i)*i2.size)).take i2.size:=by
     intro i y hy;rw[List.getElem?_drop,LF] at hy;split at hy
     · rename_i AL;cases hy;exact ⟨AL,rfl⟩
     · cases hy
   have Mc:∀(i:Nat) y (j:Nat) q,((chunk i2.size n xs).drop L)[i]?=some y→y[j]?=some q→xs[(L+i)*i2.size+j]?=some q:=by
     intro i y j q hy hq;obtain ⟨_,rfl⟩:=AN i y hy;rw[List.getElem?_take] at hq;split at hq
     · rw[List.getElem?_drop] at hq;exact hq
     · cases hq
   have Amq:∀i j,off+L*i2.size+i*i2.size+j=off+((L+i)*i2.size+j):=fun i j=>by rw[Nat.add_mul];omega
   rw[←hlen];refine .p (.sl _ b (off+L*i2.size) _ i2.size row ty fr hF hh (Nat.le_refl _) (fun i y hy=>?_) (fun i y j q hy hq=>?_) (fun i y j q hy hq=>?_))
   · obtain ⟨AL,rfl⟩:=AN i y hy;rw[List.length_take,List.length_drop,Fk];have:(L+i+1)*i2.size≤n*i2.size:=Nat.mul_le_mul_right _ AL;rw[Nat.add_mul] at this;omega
   · rw[Amq];exact hi _ _ (Mc i y j q hy hq)
   · rw[Amq];exact hp _ _ (Mc i y j q hy hq)
end
end Go.Am
namespace Go.Am
open Go
theorem Wk.E3 {st:St} {id j q sz:Nat} {cs:List D} {ty:TypeId} (e:TypeId) (hb:get st.hp id=some (.box cs ty)) (hj:cs[j]?=some (.cl [])) (hq:get st.hp q=none) (hs:0<sz):
   Wk st ⟨st.env,(q,.arr e sz [])::Ae st.hp id (.box (cs.set j (.ref q 0 0 0)) ty),st.n⟩:=by
 intro c a w F M hr;obtain ⟨D6,h1⟩:=hr.Ra (e:=e) hq hs;have BC:id≠q:=fun h=>by subst h;rw[hq] at hb;cases hb
 have Ou:get ((q,AO.arr e sz [])::st.hp) id=some (.box cs ty):=by rw[AI,if_neg (Ne.symm BC)];exact hb
 have AN:∀i,get ((q,AO.arr e sz [])::Ae st.hp id (.box (cs.set j (.ref q 0 0 0)) ty)) i=if i=id then some (.box (cs.set j (.ref q 0 0 0)) ty) else get ((q,AO.arr e sz [])::st.hp) i:=by
   intro i;simp only[AI,A9];by_cases e1:i=id
   · subst e1;simp[Ne.symm BC]
   · by_cases e2:q=i
     · subst e2;simp[e1]
     · simp[e1,e2]
 have E9:=BZ AN Ou rfl;have Ahf:=D6.heap.obj id _ Ou;obtain ⟨JU,row,t,Bj,CD,Bd⟩:=Ahf;refine ⟨F,Du M q ⟨0,0,[]⟩,?_⟩;refine D6.change (st:=⟨st.env,(q,AO.arr e sz [])::st.hp,st.n⟩) AN (fun _ _=>rfl) (by rw[E9];exact Ba.refl _ _) rfl rfl rfl (Nat.le_refl _) (fun _ _ _=>rfl) ?_ (fun b hb=> .inl ⟨_,Ou,hb⟩);refine ⟨JU,row,t,Bj,by simpa using CD,fun i d hd=>?_,fun h5 h6 i hi=>?_⟩;rotate_left
 · refine Bd.2 h5 ?_ i ?_
   · obtain ⟨x,hx,hn⟩:=List.any_eq_true.1 h6;rcases List.mem_or_eq_of_mem_set hx with h7 | rfl
     · exact List.any_eq_true.2 ⟨x,h7,hn⟩
     · cases hn
   · by_cases e1:i=j
     · subst e1;rw[List.getElem?_set_self (List.getElem?_eq_some_iff.1 hj).1] at hi;cases hi
     · rwa[List.getElem?_set_ne (Ne.symm e1)] at hi
 rw[E9];by_cases e1:i=j
 · subst e1;have AL:=(List.getElem?_eq_some_iff.1 hj).1;rw[List.getElem?_set_self AL] at hd;cases hd;have h2:=Bd.1 i _ hj;refine ⟨?_,h2.2⟩;have h3:=h2.1;generalize row.getD i undef=v at h3;cases h3 with | cl _ ad _ _=>exact h1 ad
 · rw[List.getElem?_set_ne (Ne.symm e1)] at hd;exact Bd.1 i d hd
theorem Wk.pure {st:St} {t id sz:Nat} {e:TypeId} {es:List (List Pd)} (ht:get st.env t=some (.ref id 0 es.length es.length)) (ho:get st.hp id=some (.arr e sz es)):
   Wk st ⟨(t,.p (.sl es))::st.env,Ae st.hp id (.J3 sz es),st.n⟩:=by
 intro c a w F M hr;have hd:=hr.env _ _ ht;obtain ⟨x,h',F',⟨rfl,rfl⟩,IZ,hF,hs,hp⟩:=Je hr hd (k:=fun x h'=>x= .sl es∧h'=Ae st.hp id (.J3 sz es)) (by simp[Iw,ho,froze]);refine ⟨F',M,⟨fun j d hj=>?_,IZ.size,IZ.defers,IZ.heap,IZ.keep⟩⟩;rw[AI] at hj;split at hj
 · rename_i e1;subst e1;cases hj;exact .p hp
 · exact IZ.env j d hj
attribute [go_sem] Qk
theorem Aai (ρ:Nat→Option Nat) (xs:List Pd):F3 ρ (xs.map D.p)=xs.map D.p:=by
 induction xs with
 | nil=>rfl
 | cons x r ih=>simp[F3,D.CA,ih]
theorem Agk (xs:List Pd):(xs.map D.p).all D.one=true:=by
 induction xs with
 | nil=>rfl
 | cons x r ih=>simp[D.one]
theorem AY {P:Program} {l:List Oper} {id:Nat} {p:List (Nat×Nat)} {k:Kt} {st:St} (hm:P.follows .mixedOrders=true) (hB:l7 l p=true) (hle:Av st.hp st.hp) (h:G P l st.hp p k st):
   X P (.region id l.toArray true) k st:=BB st.hp hm hB hle h
attribute [go_sem] Aai Agk List.length_map
end Go.Am
namespace Go.Am
open Go
def jmp (P:Program) (c:Code) (Q:Exit→Act→World→Prop):Nat→Exit→Act→World→Prop
 | 0,.goto _,_,_=>False
 | n+1,.goto l,a,w=>∃rest,findLabel c l=some rest∧rest.wp P (jmp P c Q n) a w
 | _,.normal,a,w=>Q .normal a w
 | _,.exit id,a,w=>Q (.exit id) a w
 | _,.ret,a,w=>Q .ret a w
 | _,.panic ch,a,w=>Q (.panic ch) a w
 | _,.outgrown,a,w=>Q .outgrown a w
theorem UC {P:Program} {a:Act} {w:World} {Q:Exit→Act→World→Prop} {c:Code} (n:Nat) (first:c.wp P (jmp P c Q n) a w):(Code.scope c).wp P Q a w:=by
 intro b k cs;have key:∀n (c1:Code) a w,c1.wp P (jmp P c Q n) a w→∃e a' w',Q e a' w'∧Arrives P (lone (b.at a (.code c1:: .inScope c::k)) cs w) b k cs e a' w':=by
   intro n
   induction n with
   | zero=>
     intro c1 a w h;obtain ⟨e,a₁,w₁,hq,NT⟩:=h b (.inScope c::k) cs;cases e with
     | normal=>exact ⟨.normal,a₁,w₁,hq,Steps.trans NT (.one step_inScope)⟩
     | exit id=>exact ⟨.exit id,a₁,w₁,hq,fun k' hk=>NT k' (by simp[exitTo,hk])⟩
     | goto l'=>exact hq.elim
     | ret=>exact ⟨_,a₁,w₁,hq,NT⟩
     | panic ch=>exact ⟨_,a₁,w₁,hq,NT⟩
     | outgrown=>exact ⟨_,a₁,w₁,hq,NT⟩
   | succ n ih=>
     intro c1 a w h;obtain ⟨e,a₁,w₁,hq,NT⟩:=h b (.inScope c::k) cs;cases e with
     | normal=>exact ⟨.normal,a₁,w₁,hq,Steps.trans NT (.one step_inScope)⟩
     | exit id=>exact ⟨.exit id,a₁,w₁,hq,fun k' hk=>NT k' (by simp[exitTo,hk])⟩
     | goto l'=>
       obtain ⟨rest,hf,hx⟩:=hq;have hg:gotoIn l' (.inScope c::k)=some (.code rest:: .inScope c::k):=by simp[gotoIn,hf]
       obtain ⟨e₂,a₂,w₂,hq₂,Atz⟩:=ih rest a₁ w₁ hx;exact ⟨e₂,a₂,w₂,hq₂,.of_steps (NT _ hg) Atz⟩
     | ret=>exact ⟨_,a₁,w₁,hq,NT⟩
     | panic ch=>exact ⟨_,a₁,w₁,hq,NT⟩
     | outgrown=>exact ⟨_,a₁,w₁,hq,NT⟩
 obtain ⟨e,a',w',hq,NT⟩:=key n c a w first
 exact ⟨e,a',w',hq,.of_steps (.one step_scope) NT⟩
def scQ (P:Program) (x:Code) (k:Kt):Nat→Exit→St→Prop
 | 0,.goto _,_=>False
 | n+1,.goto l,st=>∃st1 rest,Wk st st1∧findLabel x l=some rest∧wA P rest (scQ P x k n) st1
 | _,.normal,st=>J P k .normal st
 | _,.exit id,st=>J P k (.exit id) st
 | _,.ret,st=>J P k .ret st
 | _,.panic ch,st=>J P k (.panic ch) st
 | _,.outgrown,st=>J P k .outgrown st
def Jm (P:Program) (x:Code) (k:Kt) (n l:Nat) (st:St):Prop:=scQ P x k n (.goto l) st
section
variable {P:Program} {st:St} {x:Code} {k:Kt}
theorem l0 {c:Ctx}:∀(n:Nat) (e:Exit) (a:Act) (w:World),QC c (scQ P x k n) e a w→jmp P x (QC c (k.Df P)) n e a w
 | 0,.goto _,_,_,⟨_,_,_,h,_⟩=>h.elim
 | n+1,.goto l,a,w,⟨st,F,M,⟨st1,rest,hw,hf,hx⟩,hr⟩=>by
   obtain ⟨F1,M1,D6⟩:=hw c a w F M hr;exact ⟨rest,hf,Code.wp_mono (l0 n) (EY rest D6 hx)⟩
 | 0,.normal,_,_,h=>h
 | 0,.exit _,_,_,h=>h
 | 0,.ret,_,_,h=>h
 | 0,.panic _,_,_,h=>h
 | 0,.outgrown,_,_,h=>h
 | _+1,.normal,_,_,h=>h
 | _+1,.exit _,_,_,h=>h
 | _+1,.ret,_,_,h=>h
 | _+1,.panic _,_,_,h=>h
 | _+1,.outgrown,_,_,h=>h
theorem s8 (n:Nat) (h:X P x (.user (scQ P x k n)) st):X P (.scope x) k st:=
 fun c a w F M hr=>UC n (Code.wp_mono (l0 n) (EY x hr h))
theorem Aeq (n l:Nat):J P (.user (scQ P x k n)) (.goto l) st=Jm P x k n l st:=nd rfl
theorem Ya (n:Nat):J P (.user (scQ P x k n)) .normal st=J P k .normal st:=by cases n<;>rfl
theorem Aku (n:Nat):J P (.user (scQ P x k n)) .ret st=J P k .ret st:=by cases n<;>rfl
theorem P7 {β:Type} (VU:β→Nat) (S:β→St) (I:β→Prop) (μ:β→Nat) (N:Nat)
   (h0:∀n,(∀b' st',I b'→μ b'<N→Wk st' (S b')→Jm P x k n (VU b') st')→X P x (.user (scQ P x k n)) st)
   (hs:∀b n,I b→(∀b' st',I b'→μ b'<μ b→Wk st' (S b')→Jm P x k n (VU b') st')→∃rest,findLabel x (VU b)=some rest∧X P rest (.user (scQ P x k n)) (S b)):X P (.scope x) k st:=by
 have key:∀n b st',I b→μ b<n→Wk st' (S b)→Jm P x k n (VU b) st':=by
   intro n
   induction n with
   | zero=>intro b _ _ h;exact (Nat.not_lt_zero _ h).elim
   | succ n ih=>
     intro b st' hb hm hw;obtain ⟨rest,hf,hx⟩:=hs b n hb fun b' Avy O6 AL D5=>ih b' Avy O6 (by omega) D5;exact ⟨S b,rest,hw,hf,hx⟩
 exact s8 N (h0 N fun b' st' O6 AL hw=>key N b' st' O6 AL hw)
end
attribute [go_sem] Aeq Ya Aku
end Go.Am
namespace Go.Am
open Go
section
variable {P:Program} {ops rest:List Oper} {k:Kt} {st:St} {o:Oper}
theorem Arv {s d e:TypeId} {x:Operand} {z0 z1 z2:D} {n0 n1 n2 n3 b2:Nat} {l:List UInt8} {id:Nat} {t:TypeId} (ho:o.op= .convert s d x) (hs:AT P s=some ⟨n0,n1,.slice e,z0⟩) (hd:AT P d=some ⟨n2,n3,.string,z1⟩) (he:AT P e=some ⟨1,b2,.int .u8,z2⟩)
   (hx:ev st x= .ref id 0 l.length l.length) (hg:get st.hp id=some (.arr t 1 (Co l))) (h:O P true ops rest k (st.put o.dst (.p (.str l)))):Af P true ops rest k o st .fail:=by
 refine HJ fun c a w F M Q hr=>?_;obtain ⟨_,u1,_,_,Dr,_,e1⟩:=Az hs;obtain ⟨_,u2,_,_,KL,_,e2⟩:=Az hd;obtain ⟨_,u3,_,_,hu3,_,e3⟩:=Az he;simp only[TI.mk.injEq] at e1 e2 e3;obtain rfl:=TK.of_slice e1.2.2.1.symm;obtain rfl:=TK.of_string e2.2.2.1.symm;obtain rfl:=TK.of_int e3.2.2.1.symm;have hv:=AF hr x;rw[hx] at hv;generalize Lu:a.eval x=v at hv;have hlen:(Co l).length=l.length:=by simp[Co]
 have BW:(convert s d v).run P w= .ok (.string ⟨l.toArray⟩) w:=by
   cases hv with
   | ref _ _ _ _ sz n _ E9 hN Qu MC=>
     have hsn:sg st.hp id=some (.arr 1 l.length):=by simp[sg,hg,AO.sg,hlen]
     rw[hsn] at E9;simp only[Option.some.injEq,Sg.arr.injEq] at E9;obtain ⟨rfl,rfl⟩:=E9;obtain ⟨ad,cap,rfl,h1,h2,h3,h4⟩:=MC rfl;obtain ⟨h5,h6,h7,h8,h9⟩:=hr.heap.obj id _ hg;by_cases hc:cap=0
     · have hl0:l=[]:=List.eq_nil_of_length_eq_zero (by omega);subst hl0;cases ad with
       | none=>
         rw[run_convert_bytes_string w s d e none _ cap Dr hu3 KL];simp[Conv.bytesToString];rfl
       | some ad=>exact run_convert_bytes_back w s d e ad cap [] Dr hu3 KL (fun j hj=>by simp at hj)
     · obtain rfl:=h4.resolve_left hc;obtain ⟨_,row,⟨fr,Bj,_⟩,CD,Bd⟩:=h9 (by omega);refine run_convert_bytes_back w s d e _ cap l Dr hu3 KL fun j hj=>?_;have hp:=Bd j [.int .u8 (l[j]).toNat] 0 (.int .u8 (l[j]).toNat) (by simp[Co,hj]) rfl;have AL:j<row.size:=by omega
       have Mc:w.cell? ((⟨(M id).BU,0*1,none⟩:Addr).add j)=row[j]?:=by
         rw[Addr.add_lit];simp[World.cell?,Bj]
       rw[Mc];simp only[Nat.mul_one,Nat.add_zero] at hp;rw[Array.getD_eq_getD_getElem?,Array.getElem?_eq_getElem AL] at hp;rw[Array.getElem?_eq_getElem AL];simp only[Option.getD_some] at hp;generalize row[j]=y at hp;cases hp;rfl
 unfold Oper.wp;have hex:(execOp a.eval o).run P w= .ok (.value (.string ⟨l.toArray⟩)) w:=by
   simp only[execOp,ho,Lu];simp[BW]
 rw[hex];exact ⟨_,_,_,h,hr.put (.p (.str l)) o.dst⟩
end
end Go.Am
namespace Go.Am
open Go
theorem Fh (h e:Hp) (j:Nat):get (h++e) j=match get h j with | some o=>some o | none=>get e j:=by
 induction h with
 | nil=>rfl
 | cons x r ih=>
   obtain ⟨k,o⟩:=x;simp only[List.cons_append,AI];split
   · rfl
   · exact ih
theorem Aj.BK {P:Program} {f:FuncId} {args:List D} {h:Hp} {R:Hp→D→Prop} {id g:Nat} {cs:List Pd} (hc:Aj P f args h R) (hid:base≤id) (hn:get h id=none)
   (Aqk:((Ai args++Ac h).all fun i=>(get h i).isSome)=true) (hRn:∀h1 r,R h1 r→get h1 id=none):
   Aj P f args (h++[(id,.BK g cs)]) fun h' r=>∃h1,R h1 r∧h'=h1++[(id,.BK g cs)]:=by
 intro vs w F M J2 M7 Qc hd;have AN:∀j o,get h j=some o→get (h++[(id,AO.BK g cs)]) j=some o:=fun j o ho=>by rw[Fh,ho]
 have hgl:get (h++[(id,AO.BK g cs)]) id=some (.BK g cs):=by rw[Fh,hn];simp[AI]
 have L8:∀i,i∈Ai args++Ac h→∃o,get h i=some o:=fun i hi=>Option.isSome_iff_exists.1 (List.all_eq_true.1 Aqk i hi)
 let ρ:Nat→Option Nat:=fun i=>if (get h i).isSome then some i else none
 have hρ:∀i j,ρ i=some j→sg (h++[(id,AO.BK g cs)]) i≠none→M j=M i∧sg h j=sg (h++[(id,AO.BK g cs)]) i:=by
   intro i j hj _;simp only[ρ] at hj;split at hj
   · rename_i hs;simp only[Option.some.injEq] at hj;subst hj;obtain ⟨o,ho⟩:=Option.isSome_iff_exists.1 hs;exact ⟨rfl,by simp[sg,ho,AN _ _ ho]⟩
   · cases hj
 have Atn:∀i,(∃o,get h i=some o)→ρ i=some i:=fun i ⟨o,ho⟩=>by simp[ρ,ho]
 have Ahq:HR F w M h:=by
   constructor
   · intro i o ho;have:=(J2.obj i o (AN i o ho)).CA (M':=M) hρ;rwa[AO.OG (fun j hj=>Atn j (L8 j (List.mem_append_right _ (OX ho hj))))] at this
   · intro i o i' o' b ho Lv A6 CE;exact J2.inj i o i' o' b (AN _ _ ho) (AN _ _ Lv) A6 CE
 have SG:G0 F w M (sg h) args vs.toList:=by
   refine ⟨hd.1,fun i d hi=>?_⟩;have:=(hd.2 i d hi).CA (M':=M) hρ;rwa[OG (fun j hj=>Atn j (L8 j (List.mem_append_left _ ?_)))] at this;clear this;have Di:∀(l:List D) (i:Nat),l[i]?=some d→j∈Ai l:=by
     intro l
     induction l with
     | nil=>intro i hi;simp at hi
     | cons x r ih=>
       intro i hi;simp only[Ai,List.mem_append];cases i with
       | zero=>simp only[List.getElem?_cons_zero,Option.some.injEq] at hi;subst hi;exact .inl hj
       | succ i=>exact .inr (ih i (by simpa using hi))
   exact Di args i hi
 have Ahc:∀b,CL M (h++[(id,AO.BK g cs)]) b↔CL M h b:=by
   intro b;constructor
   · rintro ⟨i,o,ho,A6⟩;rw[Fh] at ho;cases hg:get h i with
     | some o2=>rw[hg] at ho;cases ho;exact ⟨i,_,hg,A6⟩
     | none=>
       rw[hg] at ho;simp only[AI] at ho;split at ho
       · cases ho;exact A6.elim
       · simp[get] at ho
   · rintro ⟨i,o,ho,A6⟩;exact ⟨i,o,AN _ _ ho,A6⟩
 refine (hc vs w F M Ahq M7 (fun i hi=>Qc i (by
   unfold sg at hi ⊢;cases hg:get h i with
   | none=>rw[hg] at hi;exact (hi rfl).elim
   | some o=>rw[AN _ _ hg];simp)) SG).mono ?_
 rintro e w' ⟨v,h1,r,F',M',rfl,hR,S2,Aqr,hK⟩;have W8:=hRn h1 r hR;have Ahh:∀b,F b→w'.heap[b]?=w.heap[b]?:=fun b hb=>hK.J5 b (M7 b hb) (fun ho=>Ahq.Hl ho hb)
 let M2:Nat→Mb:=fun i=>if i=id then M id else M' i
 have hM2:∀i,i≠id→M2 i=M' i:=fun i hi=>by simp[M2,hi]
 have BC:∀i o,get h1 i=some o→i≠id:=fun i o ho e=>by subst e;rw[W8] at ho;cases ho
 have IJ:∀j o,get h1 j=some o→get (h1++[(id,AO.BK g cs)]) j=some o:=fun j o ho=>by rw[Fh,ho]
 have Ax6:get (h1++[(id,AO.BK g cs)]) id=some (.BK g cs):=by rw[Fh,W8];simp[AI]
 have p6:∀j o,get (h1++[(id,AO.BK g cs)]) j=some o→get h1 j=some o∨(j=id∧o= .BK g cs):=by
   intro j o ho;rw[Fh] at ho;cases hg:get h1 j with
   | some o2=>rw[hg] at ho;exact .inl ho
   | none=>
     rw[hg] at ho;simp only[AI] at ho;split at ho
     · rename_i e;cases ho;exact .inr ⟨e.symm,rfl⟩
     · simp[get] at ho
 have KM:∀i s,sg h1 i=some s→sg (h1++[(id,AO.BK g cs)]) i=some s∧M2 i=M' i:=by
   intro i s hs;unfold sg at hs ⊢;cases hg:get h1 i with
   | none=>rw[hg] at hs;cases hs
   | some o=>rw[hg] at hs;rw[IJ _ _ hg];exact ⟨hs,hM2 i (BC i o hg)⟩
 have At1:Ba M' M2 (sg h1) (sg (h1++[(id,AO.BK g cs)])):=
   ⟨fun i hi=>⟨(KM i _ hi).1,by rw[(KM i _ hi).2]⟩,fun i sz n hi=>⟨n,(KM i _ hi).1,Nat.le_refl _,fun _=>(KM i _ hi).2⟩,fun i sz n kk hi=>⟨n,kk,(KM i _ hi).1,Nat.le_refl _,Nat.le_refl _,fun _=>by rw[(KM i _ hi).2];exact ⟨rfl,rfl⟩,fun _=>by rw[(KM i _ hi).2]⟩⟩
 refine ⟨v,h1++[(id,.BK g cs)],r,F',M2,rfl,⟨h1,hR,rfl⟩,⟨fun j o ho=>?_,fun i o i' o' b ho Lv A6 CE=>?_⟩,Aqr.keep (fun _ _=>rfl) (fun _ h=>h) At1,?_⟩
 · rcases p6 j o ho with h2 | ⟨rfl,rfl⟩
   · have h3:=S2.obj j o h2;rw[hM2 j (BC j o h2)];exact h3.keep (fun _ _=>rfl) (fun _ h=>h) At1 (fun b A6=>⟨rfl,S2.Hl ⟨j,o,h2,A6⟩⟩)
   · obtain ⟨h4,row,t,fr,h5,h7,h6⟩:=J2.obj j _ hgl;exact ⟨hK.F0 _ h4,row,t,fr,by rw[Ahh _ h4];exact h5,h7,fun q c hq=>(h6 q c hq).keep Ahh hK.F0⟩
 · rcases p6 i o ho with h2 | ⟨rfl,rfl⟩
   · rcases p6 i' o' Lv with h3 | ⟨rfl,rfl⟩
     · rw[hM2 i (BC i o h2)] at A6;rw[hM2 i' (BC i' o' h3)] at CE;exact S2.inj i o i' o' b h2 h3 A6 CE
     · exact CE.elim
   · exact A6.elim
 · refine ⟨hK.os,hK.tape,hK.output,hK.size,fun b hb hO=>hK.J5 b hb (fun h2=>hO ((Ahc b).2 h2)),hK.F0,fun b hb=>?_,hK.Fl,?_,?_,Qc⟩
   · rcases hK.Fn b hb with h2 | h2 | h2
     · exact .inl h2
     · exact .inr (.inl ((Ahc b).2 h2))
     · exact .inr (.inr h2)
   · rintro b ⟨i,o,ho,A6⟩;rcases p6 i o ho with h2 | ⟨rfl,rfl⟩
     · rw[hM2 i (BC i o h2)] at A6;rcases hK.own _ ⟨i,o,h2,A6⟩ with h3 | h3
       · exact .inl ((Ahc _).2 h3)
       · exact .inr h3
     · exact A6.elim
   · have EU:=hK.Tm;refine ⟨fun i hi=>?_,fun i sz n hi=>?_,fun i sz n kk hi=>?_⟩
     · by_cases e:i=id
       · subst e;exact ⟨by simp[sg,Ax6,AO.sg],by simp[M2]⟩
       · have C0:sg (h++[(id,AO.BK g cs)]) i=some .box:=hi;have RF:sg h i=some .box:=by
           clear hi;unfold sg at C0 ⊢;rw[Fh] at C0;cases hg:get h i with
           | some o=>rw[hg] at C0;exact C0
           | none=>rw[hg] at C0;simp[AI,get,Ne.symm e] at C0
         obtain ⟨h2,h3⟩:=EU.1 i RF;exact ⟨(KM i _ h2).1,by rw[(KM i _ h2).2];exact h3⟩
     · have e:i≠id:=by rintro rfl;simp[sg,hgl,AO.sg] at hi
       have C0:sg (h++[(id,AO.BK g cs)]) i=some (.arr sz n):=hi;have RF:sg h i=some (.arr sz n):=by
         clear hi;unfold sg at C0 ⊢;rw[Fh] at C0;cases hg:get h i with
         | some o=>rw[hg] at C0;exact C0
         | none=>rw[hg] at C0;simp[AI,get,Ne.symm e] at C0
       obtain ⟨n',h2,h3,h4⟩:=EU.2.1 i sz n RF;exact ⟨n',(KM i _ h2).1,h3,fun e2=>by rw[(KM i _ h2).2];exact h4 e2⟩
     · have e:i≠id:=by rintro rfl;simp[sg,hgl,AO.sg] at hi
       have C0:sg (h++[(id,AO.BK g cs)]) i=some (.BP sz n kk):=hi;have RF:sg h i=some (.BP sz n kk):=by
         clear hi;unfold sg at C0 ⊢;rw[Fh] at C0;cases hg:get h i with
         | some o=>rw[hg] at C0;exact C0
         | none=>rw[hg] at C0;simp[AI,get,Ne.symm e] at C0
       obtain ⟨n',k',h2,h3,h3',h4,h4'⟩:=EU.2.2 i sz n kk RF;exact ⟨n',k',(KM i _ h2).1,h3,h3',fun e2=>by rw[(KM i _ h2).2];exact h4 e2,fun e2=>by rw[(KM i _ h2).2];exact h4' e2⟩
end Go.Am
namespace Go.Am
open Go Go.ChangeShapes Go.RowKit
section
variable {P:Program} {w:World} {F:Nat→Prop} {M:Nat→Mb} {s:Nat→Option Sg} {m:Mb}
def Mi (k:IntKind) (zs:List Int):List Pd:=zs.map fun z=> .int k z
theorem Aff {name:String} {k:IntKind} {zs:List Int} {g:Nat} (hg:P.globalNamed name=some g) (hF:F g) (h:Lib.TabIs P w name k zs):LZ F w M s m (.BK g (Mi k zs)):=by
 unfold Lib.TabIs World.var? at h;rw[hg] at h;simp only[Option.bind_some] at h;split at h
 · rename_i cs t fr hc;cases h;refine ⟨hF,_,t,fr,hc,by simp[Mi],fun j c hj=>?_⟩;simp only[Mi,List.getElem?_map,Option.map_eq_some_iff] at hj;obtain ⟨z,hz,rfl⟩:=hj;rw[Array.getD_eq_getD_getElem?];simp only[List.getElem?_toArray,List.getElem?_map,hz,Option.map_some,Option.getD_some];exact .int k z
 · cases h
theorem Ahs {name:String} {k:IntKind} {zs:List Int} {g:Nat} (hg:P.globalNamed name=some g) (h:LZ F w M s m (.BK g (Mi k zs))):Lib.TabIs P w name k zs:=by
 obtain ⟨_,row,t,fr,h1,h2,h3⟩:=h;unfold Lib.TabIs World.var?;rw[hg];simp only[Option.bind_some,h1,Option.some.injEq];apply Array.ext_getElem?;intro j;by_cases hj:j<zs.length
 · have h4:=h3 j (.int k zs[j]) (by simp[Mi,hj]);have AL:j<row.size:=by rw[h2];simpa [Mi] using hj
   rw[Array.getD_eq_getD_getElem?,Array.getElem?_eq_getElem AL] at h4;rw[Array.getElem?_eq_getElem AL];simp only[Option.getD_some] at h4;simp only[List.getElem?_toArray,List.getElem?_map,List.getElem?_eq_getElem hj,Option.map_some];generalize row[j]=y at h4;cases h4;rfl
 · have AL:¬j<row.size:=by rw[h2];simpa [Mi] using hj
   rw[Array.getElem?_eq_none (by omega)];simp only[List.getElem?_toArray,List.getElem?_map,List.getElem?_eq_none (Nat.le_of_not_lt hj),Option.map_none]
theorem Z6 {name:String} {k:IntKind} {zs:List Int} {g f:Nat} {args:List D} {out:List UInt8} (hg:P.globalNamed name=some g) (Fc:Enters P f)
   (hc:∀(vs:Array Value) w F M,G0 F w M (sg [(base,AO.BK g (Mi k zs))]) args vs.toList→Lib.TabIs P w name k zs→Calls P f vs w fun e w'=>e= .returned (.string ⟨out.toArray⟩)∧∃n os,w'=Sort.grow (w.drewN n) os):
   Aj P f args [(base,.BK g (Mi k zs))] fun h r=>h=[(base,.BK g (Mi k zs))]∧r= .p (.str out):=by
 intro vs w F M J2 M7 Qc hd;have ho:=J2.obj base (.BK g (Mi k zs)) rfl;refine .inl ⟨Fc vs w,(hc vs w F M hd (Ahs hg ho)).mono ?_⟩;rintro e w' ⟨rfl,n,os,rfl⟩;have hold:∀b,b<w.heap.size→(Sort.grow (w.drewN n) os).heap[b]?=w.heap[b]?:=fun b hb=>by
   simp[Sort.grow,World.drewN,Array.getElem?_append,hb]
 have M5:∀b,¬CL M [(base,AO.BK g (Mi k zs))] b:=by
   rintro b ⟨i,o,h1,h2⟩;rw[AI] at h1;split at h1
   · cases h1;exact h2
   · simp[get] at h1
 refine ⟨_,_,_,F,M,rfl,⟨rfl,rfl⟩,J2.keep (fun b hb=>hold b (M7 b hb)) (fun b hb=>(M5 b hb).elim),.p (.str out),⟨rfl,rfl,rfl,?_,fun b hb _=>hold b hb,fun _ h=>h,fun _ h=> .inl h,?_,fun b hb=>(M5 b hb).elim,Ba.refl _ _,Qc⟩⟩
 · simp[Sort.grow,World.drewN]
 · intro b hb;have:=M7 b hb;simp[Sort.grow,World.drewN];omega
theorem Yf {g f:Nat} (hg:P.globalNamed "internal/strconv.uint64pow10" =some g) (Fc:Enters P f)
   (hc:∀(n:Int) (w:World),-9223372036854775808≤n→n≤9223372036854775807→Lib.TabIs P w "internal/strconv.uint64pow10" .u64 Lib.pow10Tab→
     Calls P f #[.int .i64 n] w fun e w'=>e= .returned (.string ⟨(Lib.itoa n).toArray⟩)∧∃k os,w'=Sort.grow (w.drewN k) os)
   (n:Int) (h0:-9223372036854775808≤n) (h1:n≤9223372036854775807):
   Aj P f [.p (.int .i64 n)] [(base,.BK g (Mi .u64 Lib.pow10Tab))] fun h r=>h=[(base,.BK g (Mi .u64 Lib.pow10Tab))]∧r= .p (.str (Lib.itoa n)):=by
 refine Z6 hg Fc fun vs w F M hd ht=>?_;have hl:=hd.1;have h2:=hd.2 0 _ rfl;obtain ⟨v,rfl⟩:∃v,vs=#[v]:=by
   obtain ⟨l⟩:=vs
   match l,hl with
   | [v],_=>exact ⟨v,rfl⟩
 have e:v= .int .i64 n:=by
   simp only[List.getD_cons_zero] at h2;cases h2 with | p h=>cases h;rfl
 subst e;exact hc n w h0 h1 ht
end
section
variable {H:Type} {enc:TypeId×Value→H} {P:Program} {W:World}
end
end Go.Am
namespace Go.Am
open Go Go.ChangeShapes Go.RowKit
section
variable {P:Program}
theorem JO {f:FuncId} {args:List D} {h:Hp} {out:Pd} (Fc:Enters P f)
   (hc:∀(vs:Array Value) w F M,HR F w M h→(∀b,F b→b<w.heap.size)→G0 F w M (sg h) args vs.toList→
     Calls P f vs w fun e w'=>∃v,e= .returned v∧PR (fun _=>False) w' out v∧Below w.heap.size w w'):
   Aj P f args h fun h' r=>h'=h∧r= .p out:=by
 intro vs w F M J2 M7 Qc hd;refine .inl ⟨Fc vs w,(hc vs w F M J2 M7 hd).mono ?_⟩;rintro e w' ⟨v,rfl,hp,hb⟩;have hold:∀b,b<w.heap.size→w'.heap[b]?=w.heap[b]?:=hb.block;refine ⟨_,_,_,F,M,rfl,⟨rfl,rfl⟩,J2.keep (fun b hb=>hold b (M7 b hb)) (fun b hb=>hold b (J2.lt hb)),.p (hp.keep (fun _ h=>h.elim) (fun _ h=>h.elim)),⟨hb.os,hb.tape,hb.output,hb.size,fun b hb _=>hold b hb,fun _ h=>h,fun _ h=> .inl h,?_,fun b hb=> .inl hb,Ba.refl _ _,Qc⟩⟩;intro b SI;exact Nat.lt_of_lt_of_le (M7 b SI) hb.size
theorem ZM {F:Nat→Prop} {w:World} {M:Nat→Mb} {s:Nat→Option Sg} {l:List UInt8} {v:Value} (h:DR F w M s (.p (.str l)) v):v= .string ⟨l.toArray⟩:=by
 cases h with | p h=>cases h;rfl
theorem Aqx {F:Nat→Prop} {w:World} {M:Nat→Mb} {s:Nat→Option Sg} {k:IntKind} {n:Int} {v:Value} (h:DR F w M s (.p (.int k n)) v):v= .int k n:=by
 cases h with | p h=>cases h;rfl
theorem Vw {F:Nat→Prop} {w:World} {M:Nat→Mb} {s:Nat→Option Sg} {x y:D} {vs:Array Value} (h:G0 F w M s [x,y] vs.toList):∃a b,vs=#[a,b]∧DR F w M s x a∧DR F w M s y b:=by
 have hl:=h.1;obtain ⟨a,b,rfl⟩:∃a b,vs=#[a,b]:=by
   obtain ⟨l⟩:=vs
   match l,hl with
   | [a,b],_=>exact ⟨a,b,rfl⟩
 exact ⟨a,b,rfl,h.2 0 _ rfl,h.2 1 _ rfl⟩
theorem Apf {w:World} {name:String} {k:IntKind} {zs:List Int} {g:Nat} (hg:P.globalNamed name=some g) (h:Lib.TabIs P w name k zs):g<w.heap.size:=by
 unfold Lib.TabIs World.var? at h;rw[hg] at h;simp only[Option.bind_some] at h;split at h
 · rename_i cs t fr hc;exact (Array.getElem?_eq_some_iff.1 hc).1
 · cases h
theorem Wj {W:World} {name:String} {k:IntKind} {zs:List Int} {l:List (String×DataW Unit)} {keep:String×DataW Unit→Bool} {g:Nat} {t e:TypeId} {n:Nat} (h:laidMetH P l W) (hk:l.filter keep=[(name,Lib.tabData k zs)])
   (hh:(Lib.tabData k zs:DataW Unit).handleName?=none)
   (hg:P.globalNamed name=some g) (hty:(P.globals[g]?).map (·.type)=some t) (ht:P.underlying t=some (.array n e)) (he:P.underlying e=some (.int k)) (hce:P.cellsOf e=1) (hct:P.cellsOf t=n):Lib.TabIs P W name k zs:=by
 have h1:=h.filter keep;rw[hk] at h1;unfold laidMetH at h1;simp only[List.filter_cons,hh,Option.isSome_none,Bool.false_eq_true,if_false,List.filter_nil] at h1;exact Lib.tabIs_of_head hg hty ht he hce hct h1
end
end Go.Am
namespace Go.Am
open Go Go.ChangeShapes Go.RowKit
def Anm (P:Program) (t:TypeId):Bool:=match P.underlying t with
 | some (.struct _)=>true
 | some (.array _ _)=>true
 | _=>false
def Ta {H:Type} (P:Program) (t:TypeId) (d:DataW H):D:=if Anm P t then .agg ((B3 d).map .p) else Anj d
section
variable {H:Type} {enc:TypeId×Value→H} {P:Program} {W:World}
theorem ZY {t:TypeId} {v:Value} {d:DataW H} {ps:List MemPlace} {sp:Nat→Bool} {M:Nat→Mb} {s:Nat→Option Sg} (ht:CM P 30 t=true) {bs:Nat} (MC:Value.okWide P W .any bs t v)
   (h:DataW.Trod enc P W 0 sp true t v d ps):DR (fun b=>b<W.heap.size) W M s (Ta P t d) v:=by
 unfold Ta;split
 · rename_i ha;obtain ⟨fuel,hf⟩:=h;have h1:=Ao9 (F:=fun b=>b<W.heap.size) (fun _ h=>h) 30 t ht _ _ _ hf;obtain ⟨cs,rfl⟩:∃cs,v= .agg cs:=by
     unfold Anm at ha;unfold Value.okWide Cell.okWide Cell.ok at MC;cases hu:P.underlying t with
     | none=>rw[hu] at ha;cases ha
     | some u=>
       rw[hu] at ha MC;cases u<;>simp at ha;all_goals
         cases v with
         | agg cs=>exact ⟨cs,rfl⟩
         | _=>simp at MC
   refine .agg _ cs (by simpa [Value.cells] using h1.1.symm) fun i c hc=>?_;rw[List.getElem?_map] at hc;cases hx:(B3 d)[i]? with
   | none=>rw[hx] at hc;cases hc
   | some x=>
     rw[hx] at hc;cases hc;have:=h1.2 i x hx;simp only[Value.cells] at this;rw[List.getD_eq_getElem?_getD,Array.getElem?_toList] at this;rw[Array.getD_eq_getD_getElem?];exact .p this
 · rename_i ha;refine Aen ?_ MC h;unfold Ape;unfold Anm at ha;rw[ht,Bool.true_and];split<;>simp_all
theorem P4 {bs:Nat} {sp:Nat→Bool} {M:Nat→Mb} {s:Nat→Option Sg}:∀{ts:List TypeId} {vs:List Value} {ds:List (DataW H)} {ps:List MemPlace},(ts.all (CM P 30))=true→
   (∀(j:Nat) t v,ts[j]?=some t→vs[j]?=some v→Value.okWide P W .any bs t v)→DataW.TrodAll enc P W 0 sp true ts vs ds ps→G0 (fun b=>b<W.heap.size) W M s (List.zipWith (Ta P) ts ds) vs
 | [],vs,ds,ps,_,_,h=>by
   obtain ⟨rfl,rfl,_⟩:=trodAll_nil h;exact ⟨rfl,fun i d hd=>by simp at hd⟩
 | t::ts,vs,ds,ps,ht,MC,h=>by
   obtain ⟨v,vs',d,XD,p,q,rfl,rfl,_,h1,h2⟩:=trodAll_cons h;simp only[List.all_cons,Bool.and_eq_true] at ht;have h3:=ZY (M:=M) (s:=s) ht.1 (MC 0 t v rfl rfl) h1;have h4:=P4 (M:=M) (s:=s) ht.2 (fun j t v h5 h6=>MC (j+1) t v (by simpa using h5) (by simpa using h6)) h2;refine ⟨by simp only[List.zipWith_cons_cons,List.length_cons,h4.1],fun i x hx=>?_⟩;cases i with
   | zero=>simp only[List.zipWith_cons_cons,List.getElem?_cons_zero,Option.some.injEq] at hx;subst hx;simpa [List.getD] using h3
   | succ i=>simp only[List.zipWith_cons_cons,List.getElem?_cons_succ] at hx;simpa [List.getD] using h4.2 i x hx
theorem Su {W':World} {sp:Nat→Bool} (hW:∀b,b<W.heap.size→W'.heap[b]?=W.heap[b]?):∀{ts:List TypeId} {vs:List Value} {ds:List (DataW H)} {ps:List MemPlace},(ts.all (CM P 30))=true→
   DataW.TrodAll enc P W 0 (fun _=>true) true ts vs ds ps→(∀p∈ps,sp p.block=true)→(∀p∈ps,p.block<W.heap.size)→DataW.TrodAll enc P W' 0 sp true ts vs ds ps
 | [],vs,ds,ps,_,h,_,_=>by
   obtain ⟨rfl,rfl,rfl⟩:=trodAll_nil h;exact trodAll_mk0
 | t::ts,vs,ds,ps,ht,h,EI,AL=>by
   obtain ⟨v,vs',d,XD,p,q,rfl,rfl,rfl,⟨n,h1⟩,h2⟩:=trodAll_cons h;simp only[List.all_cons,Bool.and_eq_true] at ht;have h3:=Apd 30 t ht.1 n _ _ h1 (sp:=sp) (fun p hp=>EI p (by simp[hp]));have h4:=DataW.trod_carry n t _ _ h3 (w':=W') (fun p hp=>by
     have:=hW p.block (AL p (by simp[hp]));cases p with
     | cell b o=>simp only[MemPlace.block] at this;simp[World.sameAt,World.cell?,this]
     | map b=>exact this)
   exact trodAll_cons_mk ⟨n,h4⟩ (Su hW ht.2 h2 (fun p hp=>EI p (by simp[hp])) (fun p hp=>AL p (by simp[hp])))
theorem Wh {held:Bool} {W:World} {sp:Nat→Bool}:∀{ts:List TypeId} {vs:List Value} {ds:List (DataW H)} {ps:List MemPlace},(ts.all (CM P 30))=true→DataW.TrodAll enc P W 0 sp held ts vs ds ps→
   ds.length=ts.length∧∀(i:Nat) t d,ts[i]?=some t→ds[i]?=some d→QF P 30 t (B3 d)
 | [],vs,ds,ps,_,h=>by
   obtain ⟨rfl,rfl,_⟩:=trodAll_nil h;exact ⟨rfl,fun i t d h=>by simp at h⟩
 | t::ts,vs,ds,ps,ht,h=>by
   obtain ⟨v,vs',d,XD,p,q,rfl,rfl,_,⟨n,h1⟩,h2⟩:=trodAll_cons h;simp only[List.all_cons,Bool.and_eq_true] at ht;obtain ⟨h3,h4⟩:=Wh ht.2 h2;refine ⟨by simp[h3],fun i t' d' hi hd=>?_⟩;cases i with
   | zero=>simp only[List.getElem?_cons_zero,Option.some.injEq] at hi hd;subst hi hd;exact Ale 30 _ ht.1 _ _ _ h1
   | succ i=>simp only[List.getElem?_cons_succ] at hi hd;exact h4 i t' d' hi hd
theorem get_mem {α:Type}:∀{h:List (Nat×α)} {i:Nat} {o:α},get h i=some o→(i,o)∈h
 | [],i,o,h=>by simp[get] at h
 | (k,x)::r,i,o,h=>by
   simp only[get] at h;split at h
   · rename_i e;cases h;subst e;simp
   · exact List.mem_cons_of_mem _ (get_mem h)
theorem Y7 {bs:Nat} {f:FuncId} {fn:Func} {s:ChangeSpec} {args:Array Value} {ds gs:List (DataW H)} {before:List MemPlace} {tb:TypeId} (Afe:List (Nat×List Pd))
   (FH:∀(j:Nat) t v,fn.params[j]?=some t→args[j]?=some v→Value.okWide P W .any bs t v)
   (hW:DataW.Whole enc P fn.params.toList s.vars false W args.toList ds gs before) (hv:s.vars=[])
   (ht:fn.params.toList.all (CM P 30)=true) (Qd:fn.resultTypes=#[tb]) (htb:P.underlying tb=some .bool)
   (hs:s.fn H ds={results:=[.lit (.bool true)],args:=ds})
   (Fc:Enters P f) (hgl:∀x∈Afe,∀(M:Nat→Mb) s m,LZ (fun b=>b<W.heap.size) W M s m (.BK x.1 x.2)) (h:Hp) (hh:h=Afe.mapIdx fun i x=>(base+i,AO.BK x.1 x.2))
   (hc:Aj P f (List.zipWith (Ta P) fn.params.toList ds) h fun h' r=>r= .p (.bool true)):
   Calls P f args W fun e W'=>∃v,e= .returned v∧s.post enc P fn false true false false W args v W':=by
 have hW0:=hW;obtain ⟨p,q,hA,hV,rfl,hfz,hnd⟩:=hW;rw[hv] at hV;obtain ⟨rfl,rfl⟩:=trodVars_none hV;have AL:∀x∈p,x.block<W.heap.size:=fun x hx=>hW0.lt x (by simp[hx]);have AN:∀i o,get h i=some o→base≤i∧∃x∈Afe,o= .BK x.1 x.2:=by
   intro i o h1;have h2:=get_mem h1;rw[hh,List.mem_mapIdx] at h2;obtain ⟨j,hj,e⟩:=h2;simp only[Prod.mk.injEq] at e;obtain ⟨rfl,rfl⟩:=e;exact ⟨Nat.le_add_right _ _,_,List.getElem_mem _,rfl⟩
 have M5:∀(M:Nat→Mb) b,¬CL M h b:=by
   rintro M b ⟨i,o,h1,h2⟩;obtain ⟨_,x,_,rfl⟩:=AN i o h1;exact h2
 have W3:=(hc args W (fun b=>b<W.heap.size) (fun _=>⟨0,0,[]⟩) ⟨fun id o h=>by obtain ⟨_,x,hx,rfl⟩:=AN id o h;exact hgl x hx _ _ _,fun id o MA o' b h _ h2=>by obtain ⟨_,x,_,rfl⟩:=AN id o h;exact h2.elim⟩ (fun _ h=>h)
   (fun id h1=>by
     unfold sg at h1;cases h2:get h id with
     | none=>rw[h2] at h1;exact (h1 rfl).elim
     | some o=>exact (AN id o h2).1)
   (P4 ht (fun j t v h1 h2=>FH j t v (by simpa using h1) (by simpa using h2)) hA))
 have Jt:=W3.resolve_right (fun ⟨v,w',h1,_⟩=>by rw[Fc] at h1;cases h1);refine Jt.2.mono ?_;rintro e W' ⟨v,h',r,F',M',rfl,rfl,_,hd,hk⟩;obtain rfl:v= .bool true:=by cases hd with | p hd=>cases hd;rfl
 have hold:∀b,b<W.heap.size→W'.heap[b]?=W.heap[b]?:=fun b hb=>hk.J5 b hb (M5 _ b);refine ⟨_,rfl,ds,[],p++[],[],p,[],by simpa using hW0,?_,?_,?_,WQ hk.os hk.output hold _,fun h=>by cases h⟩
 · rw[List.append_nil,hs,Qd];exact trodAll_cons_mk (shut_bool htb _) trodAll_mk0
 · rw[List.append_nil,hs];exact Su hold ht hA (fun x hx=>by simpa using AL x hx) AL
 · rw[List.append_nil,hs,hv];rfl
end
end Go.Am
namespace Go.Am
open Go
section
variable {P:Program} {c:Ctx} {st:St} {a:Act} {w w':World} {F:Nat→Prop} {M:Nat→Mb} {s:Nat→Option Sg}
def Fz (F:Nat→Prop) (w w':World):Prop:=∀b row t fr,F b→w.heap[b]?=some (.cells row t fr)→∃fr',w'.heap[b]?=some (.cells row t fr')
theorem PR.fz {x:Pd} {v:Value} (h:PR F w x v) (hs:Fz F w w'):PR F w' x v:=by
 induction h with
 | int k n=>exact .int k n
 | bool b=>exact .bool b
 | str l=>exact .str l
 | Tk a cap=>exact .Tk a cap
 | sl es b off cap sz row t fr hb hh hc hz hi hp ih=>
   obtain ⟨fr',h'⟩:=hs b row t fr hb hh;exact .sl es b off cap sz row t fr' hb h' hc hz hi ih
theorem DR.fz {d:D} {v:Value} (h:DR F w M s d v) (hs:Fz F w w'):DR F w' M s d v:=by
 induction h with
 | p h=>exact .p (h.fz hs)
 | agg cs vs hl _ ih=>exact .agg cs vs hl ih
 | BA cs vs hl _ ih=>exact .BA cs vs hl ih
 | cl es a h hn=>exact .cl es a (h.fz hs) hn
 | cz es a h=>exact .cz es a (h.fz hs)
 | ref id off len N sz n v h1 hN hv h2=>exact .ref id off len N sz n v h1 hN hv h2
 | ptr id off h1=>exact .ptr id off h1
 | pe cs b off row t fr hb hh hi hp=>
   obtain ⟨fr',h'⟩:=hs b row t fr hb hh;exact .pe cs b off row t fr' hb h' hi (fun j x hx=>(hp j x hx).fz hs)
 | ea id i c N sz n v h1 hN hv h2=>exact .ea id i c N sz n v h1 hN hv h2
 | fn f cap vs hl _ ih=>exact .fn f cap vs hl ih
 | np=>exact .np
 | mv id h1=>exact .mv id h1
 | BS id n sz m k v hs hN hv h=>exact .BS id n sz m k v hs hN hv h
 | J6 id i n sz m k b hs hN hi h=>exact .J6 id i n sz m k b hs hN hi h
 | nr id i len q sz m k v hs hN hv h=>exact .nr id i len q sz m k v hs hN hv h
 | Pu v h=>exact .Pu v h
 | bad v=>exact .bad v
theorem LZ.fz {m:Mb} {o:AO} (h:LZ F w M s m o) (hs:Fz F w w') (hn:∀b,¬F b→w'.heap[b]?=w.heap[b]?):LZ F w' M s m o:=by
 cases o with
 | box cs ty=>
   obtain ⟨h1,row,t,h2,h3,h4⟩:=h;exact ⟨h1,row,t,by rw[hn _ h1];exact h2,h3,fun j d hd=>⟨(h4.1 j d hd).1.fz hs,(h4.1 j d hd).2⟩,h4.2⟩
 | arr t sz es=>
   obtain ⟨h1,h2,EV,h3,h4⟩:=h;refine ⟨h1,h2,EV,h3,fun hc=>?_⟩;obtain ⟨h5,row,h6,h7,h8⟩:=h4 hc;exact ⟨h5,row,h6.keep (hn _ h5),h7,fun i e j x he hj=>(h8 i e j x he hj).fz hs⟩
 | J3 sz es=>
   obtain ⟨h1,h2,h3,h4⟩:=h;refine ⟨h1,h2,h3,fun hc=>?_⟩;obtain ⟨h5,row,t,fr,h6,h7,h8⟩:=h4 hc;obtain ⟨fr',h'⟩:=hs _ row t fr h5 h6;exact ⟨h5,row,t,fr',h',h7,fun i e j x he hj=>(h8 i e j x he hj).fz hs⟩
 | iter l pos=>
   obtain ⟨h1,h2⟩:=h;exact ⟨h1,by rw[hn _ h1];exact h2⟩
 | BK g cs=>
   obtain ⟨h1,row,t,fr,h2,h4,h3⟩:=h;obtain ⟨fr',h'⟩:=hs _ row t fr h1 h2;exact ⟨h1,row,t,fr',h',h4,fun j x hx=>(h3 j x hx).fz hs⟩
 | Df o=>exact o.Amw h hs hn
 | mp l=>
   obtain ⟨h1,⟨es,clock,h2,h3⟩,h4⟩:=h;exact ⟨h1,⟨es,clock,by rw[hn _ h1];exact h2,h3⟩,h4⟩
 | BP t e sz k rows hole=>
   refine ⟨h.pos,h.xl,h.le,h.max,fun hc=>?_,fun i r bc h1 h2 h3=>?_,h.Y5,h.dis,h.out⟩
   · obtain ⟨h1,row,h2,h3⟩:=h.outer hc;exact ⟨h1,row,by rw[hn _ h1];exact h2,h3⟩
   · obtain ⟨g1,g2,g2',g3,g4⟩:=h.rows i r bc h1 h2 h3;refine ⟨g1,g2,g2',g3,fun hc=>?_⟩;obtain ⟨h5,row,h6,h7,h8⟩:=g4 hc;exact ⟨h5,row,h6.keep (hn _ h5),h7,fun i e j x he hj=>(h8 i e j x he hj).fz hs⟩
theorem Rel.fz (hr:Rel c st a w F M) (hs:Fz F w w') (hn:∀b,¬F b→w'.heap[b]?=w.heap[b]?) (hos:w'.os=w.os) (NM:w'.tape=w.tape) (Qe:w'.output=w.output) (E8:w'.heap.size=w.heap.size)
   (hold:∀b,b<c.w0.heap.size→¬c.O0 b→w'.heap[b]?=w.heap[b]?):Rel c st a w' F M:=by
 have hk:=hr.keep;exact ⟨fun t d ht=>(hr.env t d ht).fz hs,hr.size,hr.defers,⟨fun id o ho=>(hr.heap.obj id o ho).fz hs hn,hr.heap.inj⟩,
   ⟨hos.trans hk.os,NM.trans hk.tape,Qe.trans hk.output,by rw[E8];exact hk.size,fun b hb hO=>(hold b hb hO).trans (hk.J5 b hb hO),hk.F0,hk.Fn,fun b hb=>by rw[E8];exact hk.Fl b hb,hk.own,hk.Tm,hk.YN⟩⟩
theorem PW (w:World) (g n b:Nat):(w.freeze ⟨g,0,none⟩ n).heap[b]?=if b=g∧n≠0 then (w.heap[b]?).map (fun | .cells c elem (lo,hi)=> .cells c elem (if lo==hi then (0,0+n) else (min lo 0,max hi (0+n))) | o=>o) else w.heap[b]?:=by
 unfold World.freeze;by_cases hn:n=0
 · rw[if_pos hn,if_neg (by simp[hn])]
 · rw[if_neg hn];simp only[Array.getElem?_modify];by_cases hb:g=b
   · subst hb;rw[if_pos rfl,if_pos ⟨rfl,hn⟩];cases w.heap[g]? with
     | none=>rfl
     | some o=>cases o<;>rfl
   · rw[if_neg hb,if_neg (fun h=>hb h.1.symm)]
theorem Qy {F:Nat→Prop} {w:World} {M:Nat→Mb} {s:Nat→Option Sg} {x:D} {vs:Array Value} (h:G0 F w M s [x] vs.toList):∃v,vs=#[v]∧DR F w M s x v:=by
 have hl:=h.1;obtain ⟨v,rfl⟩:∃v,vs=#[v]:=by
   obtain ⟨l⟩:=vs
   match l,hl with
   | [v],_=>exact ⟨v,rfl⟩
 exact ⟨v,rfl,h.2 0 _ rfl⟩
theorem Sa {id off:Nat} {v:Value} (h:DR F w M s (.ptr id off) v):v= .pointer (some ⟨(M id).BU,off,none⟩):=by cases h;rfl
theorem Qo {row:Array Value} (h:row.size=2):∃p v,row=#[p,v]:=by
 obtain ⟨l⟩:=row
 match l,h with
 | [p,v],_=>exact ⟨p,v,rfl⟩
theorem Ye {f:FuncId} {args:List D} {h:Hp} {r:D} (Fc:Enters P f) (hc:∀(vs:Array Value) w F M,HR F w M h→G0 F w M (sg h) args vs.toList→∃v,DR F w M (sg h) r v∧Calls P f vs w fun e w'=>e= .returned v∧w'=w):
   Aj P f args h fun h' r'=>h'=h∧r'=r:=by
 intro vs w F M J2 M7 Qc hd;obtain ⟨v,hv,Ot⟩:=hc vs w F M J2 hd;refine .inl ⟨Fc vs w,Ot.mono ?_⟩;rintro e w' ⟨rfl,rfl⟩;exact ⟨v,h,r,F,M,rfl,⟨rfl,rfl⟩,J2,hv,⟨rfl,rfl,rfl,Nat.le_refl _,fun _ _ _=>rfl,fun _ h=>h,fun _ h=> .inl h,M7,fun _ h=> .inl h,Ba.refl _ _,Qc⟩⟩
theorem MZ {f:FuncId} {h:Hp} {x:D} {T:TypeId} (Fc:Enters P f) (hg:get h base=some (.box [.ptr base 0,x] T))
   (hc:∀(b:Nat) (w:World),w.cell? ⟨b,0,none⟩=some (.pointer (some ⟨b,0,none⟩))→Calls P f #[.pointer (some ⟨b,0,none⟩)] w fun e w'=>e= .returned (.tuple #[])∧w'=w):
   Aj P f [.ptr base 0] h fun h' r=>h'=h∧r= .BA []:=by
 refine Ye Fc fun vs w F M J2 hd=>⟨.tuple #[],.BA [] #[] rfl (fun i d hd=>by simp at hd),?_⟩;obtain ⟨v,rfl,hv⟩:=Qy hd;rw[Sa hv];refine hc _ _ ?_;obtain ⟨_,row,t,Bj,CD,Bd,_⟩:=J2.obj base _ hg;obtain ⟨p,q,rfl⟩:=Qo CD;have h0:=(Bd 0 _ rfl).1;have:=Sa h0;simp only[World.cell?,Bj]
 simpa using this
theorem L0 {f:FuncId} {x:D} {T:TypeId} (Fc:Enters P f) (hT:T≠0)
   (hc:∀(b:Nat) (w:World),w.cell? ⟨b,0,none⟩=some (.pointer none)→w.shape? b=some (T,2)→w.frozen? ⟨b,0,none⟩=false→Calls P f #[.pointer (some ⟨b,0,none⟩)] w fun e w'=>e= .returned (.tuple #[])∧w'=w.setCell ⟨b,0,none⟩ (.pointer (some ⟨b,0,none⟩))):
   Aj P f [.ptr base 0] [(base,.box [.np,.cl []] T)] fun h' r=>h'=[(base,.box [.ptr base 0,.cl []] T)]∧r= .BA []:=by
 intro vs w F M J2 M7 Qc hd;obtain ⟨v,rfl,hv⟩:=Qy hd;rw[Sa hv];have hg:get [(base,AO.box [.np,.cl []] T)] base=some (.box [.np,.cl []] T):=rfl;obtain ⟨JU,row,t,Bj,CD,Bd,hx⟩:=J2.obj base _ hg;obtain ⟨p,q,rfl⟩:=Qo CD;rw[show Ni T t=T by simp[Ni,hT]] at Bj;have h0:=(Bd 0 _ rfl).1;have hp:p= .pointer none:=by
   have:(#[p,q]:Array Value).getD 0 undef=p:=rfl;rw[this] at h0;cases h0;rfl
 subst hp;refine .inl ⟨Fc _ w,(hc _ w ?_ ?_ ?_).mono ?_⟩
 · simp[World.cell?,Bj]
 · simp[World.shape?,Bj]
 · simp[World.frozen?,Bj]
 rintro e w' ⟨rfl,rfl⟩;have Da:w.setCell ⟨(M base).BU,0,none⟩ (.pointer (some ⟨(M base).BU,0,none⟩))=w.setRow (M base).BU #[.pointer (some ⟨(M base).BU,0,none⟩),q]:=by
   unfold World.setCell World.setRow
   congr 1
   apply Array.ext_getElem?;intro j;simp only[Array.getElem?_modify];by_cases hj:(M base).BU=j
   · subst hj;rw[if_pos rfl,if_pos rfl,Bj];rfl
   · rw[if_neg hj,if_neg hj]
 rw[Da];have hr0:=Rel.start (args:=[]) (vs:=#[]) (n:=0) J2 M7 Qc ⟨rfl,fun i d hd=>by simp at hd⟩ (Nat.zero_le _);obtain ⟨w1,Jp,D6⟩:=hr0.Wn (P:=P) (id:=base) (off:=0) (cs:=[.ptr base 0]) (vs:=[.pointer (some ⟨(M base).BU,0,none⟩)]) hg ⟨rfl,fun i d hd=>by
   cases i with
   | zero=>simp only[List.getElem?_cons_zero,Option.some.injEq] at hd;subst hd;exact .ptr base 0 rfl
   | succ i=>simp at hd⟩ rfl (by simp)
 have BW:=run_storeCells_at P (M base).BU 0 T [.pointer (some ⟨(M base).BU,0,none⟩)] 0 #[.pointer none,q] w Bj (by simp) (by simp[Value.oneCell']);simp only[Nat.add_zero] at BW;rw[BW] at Jp;cases Jp;refine ⟨_,_,.BA [],F,M,rfl,⟨?_,rfl⟩,D6.heap,.BA [] #[] rfl (fun i d hd=>by simp at hd),D6.keep⟩;cases T with
 | zero=>exact (hT rfl).elim
 | succ T=>simp[Ae,ID,D.U9]
theorem SD {f:FuncId} {e T:TypeId} {l:List UInt8} {px:D} (Fc:Enters P f) (hl:l≠[])
   (hc:∀(b g n cap:Nat) (p:Value) (cur:Array Value) (T:TypeId) (w:World) (fr:Nat×Nat),w.heap[b]?=some (.cells #[p,.slice (some ⟨g,0,none⟩) n cap] T (0,0))→n=l.length→w.heap[g]?=some (.cells cur e fr)→n≤cap→cap≤maxLen→cur.size=cap→
     (∀(j:Nat) (x:UInt8),l[j]?=some x→cur[j]?=some (Value.int .u8 x.toNat))→Calls P f #[.pointer (some ⟨b,0,none⟩)] w fun e w'=>e= .returned (.string ⟨l.toArray⟩)∧w'=w.drew.freeze ⟨g,0,none⟩ l.length):
   Aj P f [.ptr base 0] [(base,.box [px,.ref (base+1) 0 l.length l.length] T),(base+1,.arr e 1 (Co l))]
     fun h' r=>h'=[(base,.box [px,.ref (base+1) 0 l.length l.length] T),(base+1,.J3 1 (Co l))]∧r= .p (.str l):=by
 intro vs w F M J2 M7 Qc hd;obtain ⟨v,rfl,hv⟩:=Qy hd;rw[Sa hv];have hll:l.length≠0:=by simpa using hl
 have hel:(Co l).length=l.length:=by simp[Co]
 have hg0:get [(base,AO.box [px,.ref (base+1) 0 l.length l.length] T),(base+1,.arr e 1 (Co l))] base=some (.box [px,.ref (base+1) 0 l.length l.length] T):=rfl;have O4:get [(base,AO.box [px,.ref (base+1) 0 l.length l.length] T),(base+1,.arr e 1 (Co l))] (base+1)=some (.arr e 1 (Co l)):=rfl;obtain ⟨JU,row,t,Bj,CD,Bd,_⟩:=J2.obj base _ hg0;obtain ⟨p,q,rfl⟩:=Qo CD;obtain ⟨_,h2,h3,_,h5⟩:=J2.obj (base+1) _ O4;have h3':=h3;have h6:=(Bd 1 _ rfl).1;have e1:(#[p,q]:Array Value).getD 1 undef=q:=rfl;rw[e1] at h6;obtain ⟨ad,cap,rfl,h7,h8,h9,Lx⟩:PB (M (base+1)) 1 l.length 0 l.length q:=by
   cases h6 with
   | ref _ _ _ _ sz n _ hs hN Qu MC=>
     have KN:sg [(base,AO.box [px,.ref (base+1) 0 l.length l.length] T),(base+1,.arr e 1 (Co l))] (base+1)=some (.arr 1 l.length):=by rw[sg,O4];simp[AO.sg,hel]
     rw[KN] at hs;simp only[Option.some.injEq,Sg.arr.injEq] at hs;obtain ⟨rfl,rfl⟩:=hs;exact MC rfl
 have Hx:cap≠0:=fun h0=>hll (Nat.le_zero.1 (h0 ▸ h8));obtain rfl:=Lx.resolve_left Hx;have Atx:(M (base+1)).cap≠0:=fun h0=>Hx ((Nat.zero_add cap).symm.trans (h9.trans h0));clear h7 h3;obtain ⟨hnG,cur,⟨frc,Axe,_⟩,Zz,r0⟩:=h5 Atx;rw[Nat.zero_mul] at Bj;refine .inl ⟨Fc _ w,(hc _ _ _ _ _ cur _ w frc Bj rfl Axe h8 (by have:=(Nat.zero_add cap).symm.trans h9;rw[this];exact h3') (by have:=(Nat.zero_add cap).symm.trans h9;rw[Zz,this,Nat.mul_one]) ?_).mono ?_⟩
 · intro j x hx;have AL:=(List.getElem?_eq_some_iff.1 hx).1;have Yw:=r0 j [.int .u8 x.toNat] 0 (.int .u8 x.toNat) (by simp[Co,hx]) rfl;have Qh:j<cur.size:=by omega
   simp only[Nat.mul_one,Nat.add_zero] at Yw;rw[Array.getD_eq_getD_getElem?,Array.getElem?_eq_getElem Qh] at Yw;rw[Array.getElem?_eq_getElem Qh];simp only[Option.getD_some] at Yw;generalize cur[j]=y at Yw;cases Yw;rfl
 rintro e2 w' ⟨rfl,rfl⟩;have hr0:=Rel.start (args:=[]) (vs:=#[]) (n:=0) J2 M7 Qc ⟨rfl,fun i d hd=>by simp at hd⟩ (Nat.zero_le _);have D6:=hr0.freeze O4;have Fa:=D6.drew;have A6:CL M [(base,AO.box [px,.ref (base+1) 0 l.length l.length] T),(base+1,.arr e 1 (Co l))] (M (base+1)).BU:=⟨base+1,_,O4,by show (M (base+1)).cap≠0;omega,rfl⟩;have Ahi:∀b,b≠(M (base+1)).BU→(w.drew.freeze ⟨(M (base+1)).BU,0,none⟩ l.length).heap[b]?=w.heap[b]?:=fun b hb=>by
   rw[PW,if_neg (fun h=>hb h.1)];rfl
 have hr3:=Fa.fz (w':=w.drew.freeze ⟨(M (base+1)).BU,0,none⟩ l.length) (fun b row t fr hF hb=>by
     by_cases e3:b=(M (base+1)).BU
     · subst e3;rw[PW,if_pos ⟨rfl,hll⟩];have O6:w.drew.heap[(M (base+1)).BU]?=some (.cells row t fr):=hb;rw[O6];obtain ⟨lo,hi⟩:=fr;exact ⟨_,rfl⟩
     · exact ⟨fr,by rw[Ahi b e3];exact hb⟩) (fun b hF=>by
     by_cases e3:b=(M (base+1)).BU
     · exact (hF (.inr ⟨by omega,e3⟩)).elim
     · exact Ahi b e3) (by unfold World.freeze;split<;>rfl) (by unfold World.freeze;split<;>rfl) (by unfold World.freeze;split<;>rfl) (by unfold World.freeze;split<;>simp<;>rfl)
   (fun b hb hO=>by
     by_cases e3:b=(M (base+1)).BU
     · subst e3;exact (hO A6).elim
     · exact Ahi b e3)
 refine ⟨_,_,.p (.str l),_,M,rfl,⟨?_,rfl⟩,hr3.heap,.p (.str l),hr3.keep⟩;simp[froze,O4,Ae]
theorem MY {f:FuncId} {T:TypeId} (Fc:Enters P f) (hT:T≠0)
   (hc:∀(b:Nat) (p:Value) (T:TypeId) (w:World),w.heap[b]?=some (.cells #[p,.slice none 0 0] T (0,0))→Calls P f #[.pointer (some ⟨b,0,none⟩)] w fun e w'=>e= .returned (.string ⟨#[]⟩)∧w'=w.drew):
   Aj P f [.ptr base 0] [(base,.box [.np,.cl []] T)] fun h' r=>h'=[(base,.box [.np,.cl []] T)]∧r= .p (.str []):=by
 intro vs w F M J2 M7 Qc hd;obtain ⟨v,rfl,hv⟩:=Qy hd;rw[Sa hv];have hg:get [(base,AO.box [.np,.cl []] T)] base=some (.box [.np,.cl []] T):=rfl;obtain ⟨JU,row,t,Bj,CD,Bd,hx⟩:=J2.obj base _ hg;obtain ⟨p,q,rfl⟩:=Qo CD;have hq:q= .slice none 0 0:=hx hT rfl 1 rfl;subst hq;refine .inl ⟨Fc _ w,(hc _ _ _ w Bj).mono ?_⟩;rintro e w' ⟨rfl,rfl⟩;have hr0:=Rel.start (args:=[]) (vs:=#[]) (n:=0) J2 M7 Qc ⟨rfl,fun i d hd=>by simp at hd⟩ (Nat.zero_le _);have D6:=hr0.drew;exact ⟨_,_,.p (.str []),F,M,rfl,⟨rfl,rfl⟩,D6.heap,.p (.str []),D6.keep⟩
end
end Go.Am
namespace Go.Am
open Go
section
variable {P:Program} {ops rest:List Oper} {k:Kt} {st:St} {o:Oper}
theorem UB {c:Call} {x:Operand} {id t:Nat} {l:List (Pd×Pd)} {kk:KK} {z:Pd} (ho:o.op= .call c) (hc:c.callee= .builtin .len) (ha:c.args=#[x]) (ht:c.argTypes=#[t])
   (hm:mapOf P t=some (kk,z)) (hx:ev st x= .mv id) (hg:get st.hp id=some (.mp l)) (h:O P true ops rest k (st.put o.dst (.p (.int .i64 (l.length:Nat))))):Af P true ops rest k o st .fail:=by
 refine HJ fun ct a w F M Q hr=>?_;obtain ⟨kt,e,d,ii,zv,hu,hk,hd,C0,hz,rfl,hzf⟩:=Jh hm;obtain ⟨JU,⟨es,clock,hb,HQ⟩,M6⟩:=hr.heap.obj id _ hg;have hv:=AF hr x;rw[hx] at hv;generalize Lu:a.eval x=v at hv;cases hv with
 | mv _ hs=>
   have hlen:es.size=l.length:=by have:=congrArg List.length HQ;simpa using this
   unfold Oper.wp;have hex:(execOp a.eval o).run P w= .ok (.value (.int .i64 (l.length:Nat))) w:=by
     simp[execOp,ho,hc,ha,ht,Lu,resolve,invoke,builtin,Builtin.len_,run_underlying hu,MapKept.run_getObj_map hb,Result.andThen,goInt,hlen]
   rw[hex];exact ⟨_,F,M,h,hr.put (.p (.int _ _)) o.dst⟩
def LQ (k:Pd):List (Pd×Pd)→List (Pd×Pd)
 | []=>[]
 | (k',v')::r=>if Pd.same k k'=some true then r else (k',v')::LQ k r
theorem TB {kk:KK} {key:Pd} {d:TypeDesc} (hd:match kk with | .int x=>d= .int x | .str=>d= .string) (hf:kk.fit key=true):
   ∀(es:List MapEntry) (l:List (Pd×Pd)) (n:Nat),es.map (fun e=>(e.key,e.val))=l.map (fun p=>(p.1.val,p.2.val))→OQ key l→
     (∃v i,Instr.findNow d key.val es n=some (some (n+i,v))∧(es.eraseIdx i).map (fun e=>(e.key,e.val))=(LQ key l).map (fun p=>(p.1.val,p.2.val)))∨
     (Instr.findNow d key.val es n=some none∧LQ key l=l)
 | [],[],n,_,_=> .inr ⟨rfl,rfl⟩
 | [],_::_,n,h,_=>by simp at h
 | _::_,[],n,h,_=>by simp at h
 | e::es,(q,v)::l,n,h,hm=>by
   simp only[List.map_cons,List.cons.injEq,Prod.mk.injEq] at h;obtain ⟨⟨h1,h2⟩,h3⟩:=h;unfold OQ JS at hm;cases hs:Pd.same key q with
   | none=>rw[hs] at hm;simp at hm
   | some b=>
     have hn:=Pd.QU hd hf hs;cases b with
     | true=>exact .inl ⟨e.val,0,by simp[Instr.findNow,h1,hn],by simp[LQ,hs,h3]⟩
     | false=>
       rw[hs] at hm;rcases TB hd hf es l (n+1) h3 hm with ⟨v',i,g1,g2⟩ | ⟨g1,g2⟩
       · refine .inl ⟨v',i+1,?_,by simp[LQ,hs,h1,h2,g2]⟩;simp only[Instr.findNow,h1,hn,g1];congr 3;omega
       · exact .inr ⟨by simp only[Instr.findNow,h1,hn,g1],by simp[LQ,hs,g2]⟩
theorem Ps {c:Call} {x y:Operand} {id t t2:Nat} {l:List (Pd×Pd)} {kk:KK} {z key:Pd} (ho:o.op= .call c) (hc:c.callee= .builtin .delete) (ha:c.args=#[x,y]) (ht:c.argTypes=#[t,t2])
   (hm:mapOf P t=some (kk,z)) (hx:ev st x= .mv id) (hy:ev st y= .p key) (hf:kk.fit key=true) (hg:get st.hp id=some (.mp l)) (LX:OQ key l)
   (h:O P true ops rest k (({st with hp:=Ae st.hp id (.mp (LQ key l))}:St).put o.dst (.BA []))):Af P true ops rest k o st .fail:=by
 refine HJ fun ct a w F M Q hr=>?_;obtain ⟨kt,e,d,ii,zv,hu,hk,hd,C0,hz,rfl,hzf⟩:=Jh hm;obtain ⟨JU,⟨es,clock,hb,HQ⟩,M6⟩:=hr.heap.obj id _ hg;have hv:=AF hr x;rw[hx] at hv;generalize Lu:a.eval x=v at hv;have Qu:=AF hr y;rw[hy] at Qu;generalize hvy:a.eval y=v2 at Qu;have AN:∀j,get (Ae st.hp id (.mp (LQ key l))) j=if j=id then some (.mp (LQ key l)) else get st.hp j:=A9 _ _ _
 have E9:=BZ AN hg rfl;cases hv with
 | mv _ hs=>
   cases Qu with
   | p hi=>
     have hvi:v2=key.val:=by cases hi<;>first | rfl | (cases kk<;>simp[KK.fit] at hf)
     subst hvi;have hck:∀b,(Instr.checkKey b 10000 kt key.val).run P w= .ok () w:=fun b=>MapKept.run_checkKey hk (OT hd hf) b 9999;have Amn:∀p∈LQ key l,p.2.flat=true:=by
       clear AN E9 HQ hg LX h
       induction l with
       | nil=>intro p hp;simp[LQ] at hp
       | cons q r ih=>
         intro p hp;simp only[LQ] at hp;split at hp
         · exact M6 p (by simp[hp])
         · rcases List.mem_cons.1 hp with rfl | hp
           · exact M6 _ (by simp)
           · exact ih (fun p hp=>M6 p (by simp[hp])) p hp
     have hch:∀(LY:Array MapEntry),LY.toList.map (fun e=>(e.key,e.val))=(LQ key l).map (fun p=>(p.1.val,p.2.val))→
         Rel ct {st with hp:=Ae st.hp id (.mp (LQ key l))} a {w with heap:=w.heap.setIfInBounds (M id).BU (.map LY clock)} F M:=by
       intro LY h1;have Da:=MapKept.heap_set (o':= .map LY clock) hb;refine hr.change (M':=M) AN (fun _ _=>rfl) (by rw[E9];exact Ba.refl _ _) rfl rfl rfl (by simp) (fun b SI BC=>Da.2 b (BC _ hg)) ⟨JU,⟨LY,clock,Da.1,h1⟩,Amn⟩ (fun b SI=> .inl ⟨_,hg,SI⟩)
     unfold Oper.wp;rcases TB hd hf es.toList l 0 HQ LX with ⟨v',i,g1,g2⟩ | ⟨g1,g2⟩
     · have hex:(execOp a.eval o).run P w= .ok (.value (.tuple #[])) {w with heap:=w.heap.setIfInBounds (M id).BU (.map (es.eraseIdxIfInBounds i) clock)}:=by
         simp[execOp,ho,hc,ha,ht,Lu,hvy,resolve,invoke,builtin,Builtin.delete_,run_underlying hu,MapKept.run_getObj_map hb,hck,MapKept.run_findKey hk g1,Result.andThen,MapKept.run_setObj_map _ hb]
       rw[hex];exact ⟨_,F,M,h,(hch _ (by rw[Array.toList_eraseIdxIfInBounds];exact g2)).put (.BA [] #[] rfl (fun i d hd=>by simp at hd)) o.dst⟩
     · have hex:(execOp a.eval o).run P w= .ok (.value (.tuple #[])) {w with heap:=w.heap.setIfInBounds (M id).BU (.map es clock)}:=by
         simp[execOp,ho,hc,ha,ht,Lu,hvy,resolve,invoke,builtin,Builtin.delete_,run_underlying hu,MapKept.run_getObj_map hb,hck,MapKept.run_findKey hk g1,Result.andThen,MapKept.run_setObj_map _ hb]
       rw[hex];exact ⟨_,F,M,h,(hch _ (by rw[g2];exact HQ)).put (.BA [] #[] rfl (fun i d hd=>by simp at hd)) o.dst⟩
end
def Il (m:List (List UInt8×Int)):List (Pd×Pd):=m.map fun p=>(.str p.1,.int .i64 p.2)
def Cz (m:List (List UInt8×Int)) (k:List UInt8):Option Int:=(m.find? fun p=>p.1==k).map (·.2)
def FD (m:List (List UInt8×Int)) (k:List UInt8) (v:Int):List (List UInt8×Int):=match m with
 | []=>[(k,v)]
 | p::r=>if p.1=k then (k,v)::r else p::FD r k v
theorem U1 (k:List UInt8):∀m,JS (.str k) (Il m)=some ((Cz m k).map (.int .i64))
 | []=>rfl
 | p::r=>by
   have ih:=U1 k r;simp only[Il,List.map_cons,JS,Pd.same,Cz,List.find?_cons] at ih ⊢;by_cases h:p.1=k
   · simp[h]
   · have h1:(k==p.1)=false:=by simpa using Ne.symm h
     have h2:(p.1==k)=false:=by simpa using h
     rw[h1,h2];exact ih
theorem B7 (k:List UInt8) (m):OQ (.str k) (Il m):=by unfold OQ;rw[U1];rfl
theorem Cj (k:List UInt8) (m):Rd (.str k) (Il m)=(Cz m k).map (.int .i64):=by unfold Rd;rw[U1];rfl
theorem Rc (k:List UInt8) (v:Int):∀m,IB (.str k) (.int .i64 v) (Il m)=Il (FD m k v)
 | []=>rfl
 | p::r=>by
   have ih:=Rc k v r;simp only[Il] at ih;simp only[Il,List.map_cons,IB,Pd.same,FD];by_cases h:p.1=k
   · simp[h]
   · have h1:(k==p.1)=false:=by simpa using Ne.symm h
     simp[h1,h,ih]
theorem Y4 (m) (k:List UInt8) (z:Int) (ok:Bool):CS (.int .i64 z) ok ((Cz m k).map (.int .i64))=if ok then .BA [.p (.int .i64 ((Cz m k).getD z)),.p (.bool (Cz m k).isSome)] else .p (.int .i64 ((Cz m k).getD z)):=by
 unfold CS;cases Cz m k<;>rfl
theorem l9 (m):(Il m).length=m.length:=by simp[Il]
theorem UY:Il []=[]:=rfl
def U0 (m:List (Int×Bool)):List (Pd×Pd):=m.map fun p=>(.int .i64 p.1,.bool p.2)
def GD (m:List (Int×Bool)) (k:Int):Option Bool:=(m.find? fun p=>p.1==k).map (·.2)
def Nv (m:List (Int×Bool)) (k:Int) (v:Bool):List (Int×Bool):=match m with
 | []=>[(k,v)]
 | p::r=>if p.1=k then (k,v)::r else p::Nv r k v
def Ik (m:List (Int×Bool)) (k:Int):List (Int×Bool):=match m with
 | []=>[]
 | p::r=>if p.1=k then r else p::Ik r k
theorem U2 (k:Int):∀m,JS (.int .i64 k) (U0 m)=some ((GD m k).map .bool)
 | []=>rfl
 | p::r=>by
   have ih:=U2 k r;simp only[U0,List.map_cons,JS,Pd.same,GD,List.find?_cons] at ih ⊢;by_cases h:p.1=k
   · simp[h]
   · have h1:(k==p.1)=false:=by simpa using Ne.symm h
     have h2:(p.1==k)=false:=by simpa using h
     simp only[h1,h2,if_true];exact ih
theorem Re (k:Int) (m):OQ (.int .i64 k) (U0 m):=by unfold OQ;rw[U2];rfl
theorem Agi (k:Int) (m):Rd (.int .i64 k) (U0 m)=(GD m k).map .bool:=by unfold Rd;rw[U2];rfl
theorem Y0 (k:Int) (v:Bool):∀m,IB (.int .i64 k) (.bool v) (U0 m)=U0 (Nv m k v)
 | []=>rfl
 | p::r=>by
   have ih:=Y0 k v r;simp only[U0] at ih;simp only[U0,List.map_cons,IB,Pd.same,Nv];by_cases h:p.1=k
   · simp[h]
   · have h1:(k==p.1)=false:=by simpa using Ne.symm h
     simp[h1,h,ih]
theorem Y1 (k:Int):∀m,LQ (.int .i64 k) (U0 m)=U0 (Ik m k)
 | []=>rfl
 | p::r=>by
   have ih:=Y1 k r;simp only[U0] at ih;simp only[U0,List.map_cons,LQ,Pd.same,Ik];by_cases h:p.1=k
   · simp[h]
   · have h1:(k==p.1)=false:=by simpa using Ne.symm h
     simp[h1,h,ih]
theorem Agm (m) (k:Int) (z:Bool) (ok:Bool):CS (.bool z) ok ((GD m k).map .bool)=if ok then .BA [.p (.bool ((GD m k).getD z)),.p (.bool (GD m k).isSome)] else .p (.bool ((GD m k).getD z)):=by
 unfold CS;cases GD m k<;>rfl
theorem n7 (m):(U0 m).length=m.length:=by simp[U0]
theorem UZ:U0 []=[]:=rfl
attribute [go_sem] Jk Ic KK.fit Pd.flat B7 Cj Rc Y4 l9 Re Agi Y0 Y1 Agm n7
end Go.Am
namespace Go.Am
open Go
def Akq (r:D):Prop:=r= .BA []∨∃y,r= .p y
theorem Akq.dr {F:Nat→Prop} {w:World} {M M':Nat→Mb} {s s':Nat→Option Sg} {r:D} {v:Value} (h:Akq r) (hd:DR F w M s r v):DR F w M' s' r v:=by
 rcases h with rfl | ⟨y,rfl⟩
 · cases hd with | BA _ vs hl hc=>exact .BA [] vs hl (fun i c hi=>by simp at hi)
 · cases hd with | p hx=>exact .p hx
theorem SB {P:Program} {f:FuncId} {ps:List Pd} {t e:TypeId} {sz k i n:Nat} {rows:List (List (List Pd))} {es:List (List Pd)} {R:Hp→D→Prop} {R':List (List Pd)→D→Prop}
   (hi:rows[i]?=some es) (hn:n=es.length) (hc:Aj P f (.ref 1000000 0 n n::ps.map D.p) [(1000000,.arr e sz es)] R)
   (hR:∀h' r,R h' r→∃LY,h'=[(1000000,.arr e sz LY)]∧LY.length=n∧Akq r∧R' LY r):
   Aj P f (.nr 1000000 i n k::ps.map D.p) [(1000000,.BP t e sz k rows none)] fun h' r=>∃LY,h'=[(1000000,.BP t e sz k (rows.set i LY) none)]∧LY.length=n∧R' LY r:=by
 subst hn;intro vs w F M J2 M7 Qc hd;have hg:get [(1000000,AO.BP t e sz k rows none)] 1000000=some (.BP t e sz k rows none):=rfl;have hN:FR F w (M 1000000) t e sz rows none:=J2.obj 1000000 _ hg;have AL:i<rows.length:=(List.getElem?_eq_some_iff.1 hi).1;obtain ⟨bc,Yv⟩:∃bc,(M 1000000).xs[i]?=some bc:=⟨_,List.getElem?_eq_getElem (by rw[hN.xl];exact AL)⟩;obtain ⟨M1,hM1⟩:∃M1:Nat→Mb,M1=fun _=>⟨bc.1,bc.2,[]⟩:=⟨_,rfl⟩;have Abx:∀j,M1 j=⟨bc.1,bc.2,[]⟩:=fun j=>by rw[hM1]
 have Aqs:SA F w ⟨bc.1,bc.2,[]⟩ e sz es:=hN.rows i es bc hi Yv (by simp);have IJ:∀{o:AO} {j:Nat} {o2:AO},get [(1000000,o)] j=some o2→j=1000000∧o2=o:=fun {o j o2} h=>by
   simp only[AI] at h;split at h
   · rename_i e1;cases h;exact ⟨e1.symm,rfl⟩
   · cases h
 have Ahq:HR F w M1 [(1000000,.arr e sz es)]:=by
   refine ⟨fun j o hj=>?_,fun j o j' o' b hj ET _ _=>?_⟩
   · obtain ⟨rfl,rfl⟩:=IJ hj;rw[Abx];exact Aqs
   · rw[(IJ hj).1,(IJ ET).1]
 have hd0:DR F w M (sg [(1000000,.BP t e sz k rows none)]) (.nr 1000000 i es.length k) (vs.toList.getD 0 undef):=hd.2 0 _ rfl;have SG:G0 F w M1 (sg [(1000000,.arr e sz es)]) (.ref 1000000 0 es.length es.length::ps.map D.p) vs.toList:=by
   refine ⟨by have:=hd.1;simpa using this,fun j d hj=>?_⟩;cases j with
   | zero=>
     simp only[List.getElem?_cons_zero,Option.some.injEq] at hj;subst hj;generalize vs.toList.getD 0 undef=v at hd0;cases hd0 with
     | nr _ _ _ _ M3 m k3 _ KN hN2 hv hl=>
       have Ym:sg [(1000000,AO.BP t e sz k rows none)] 1000000=some (.BP sz rows.length k):=rfl;rw[KN] at Ym;simp only[Option.some.injEq,Sg.BP.injEq] at Ym;obtain ⟨_,_,rfl⟩:=Ym;obtain ⟨bc2,g1,g2,ad,g3,g4⟩:=hl rfl;rw[Yv] at g1;cases g1;exact .ref 1000000 0 _ _ sz es.length _ rfl (Nat.le_refl _) ⟨_,_,_,g3⟩ (fun _=>⟨ad,bc.2,g3,by omega,g2,by rw[Abx];simp,by rw[Abx];simpa using g4⟩)
   | succ j=>
     have h2:=hd.2 (j+1) d (by simpa using hj);simp only[List.getElem?_cons_succ,List.getElem?_map] at hj;cases hp:ps[j]? with
     | none=>rw[hp] at hj;cases hj
     | some p=>
       rw[hp] at hj;simp only[Option.map_some,Option.some.injEq] at hj;subst hj;cases h2 with | p hx=>exact .p hx
 have Awm:∀id,sg [(1000000,AO.arr e sz es)] id≠none→base≤id:=by
   intro id hs;refine Qc id ?_;unfold sg at hs ⊢;simp only[AI] at hs ⊢;split
   · simp
   · rename_i h1;rw[if_neg h1] at hs;exact hs
 refine (hc vs w F M1 Ahq M7 Awm SG).mono fun ed w' hh=>?_;obtain ⟨v,h',r,F',M',he,hr,S2,S1,hk⟩:=hh;obtain ⟨LY,rfl,hlen,hp,hR2⟩:=hR h' r hr;have HM:M' 1000000=⟨bc.1,bc.2,[]⟩:=by
   obtain ⟨n',g1,g2,g3⟩:=hk.Tm.2.1 1000000 sz es.length rfl;have:n'=LY.length:=by
     have:sg [(1000000,AO.arr e sz LY)] 1000000=some (.arr sz LY.length):=rfl;rw[this] at g1;simp only[Option.some.injEq,Sg.arr.injEq] at g1;exact g1.2.symm
   rw[g3 (by omega)];exact Abx _
 have Au0:SA F' w' ⟨bc.1,bc.2,[]⟩ e sz LY:=by have:=S2.obj 1000000 _ rfl;rw[HM] at this;exact this
 have Apm:∀b,CL M1 [(1000000,AO.arr e sz es)] b↔bc.2≠0∧b=bc.1:=by
   intro b;constructor
   · rintro ⟨j,o,h1,h2⟩;obtain ⟨rfl,rfl⟩:=IJ h1;rw[Abx] at h2;exact h2
   · intro h;exact ⟨1000000,_,rfl,by rw[Abx];exact h⟩
 have Ash:∀b,CL M [(1000000,AO.BP t e sz k rows none)] b↔B5 (M 1000000) b:=by
   intro b;constructor
   · rintro ⟨j,o,h1,h2⟩;obtain ⟨rfl,rfl⟩:=IJ h1;exact h2
   · intro h;exact ⟨1000000,_,rfl,h⟩
 have Asg:∀b,CL M [(1000000,AO.BP t e sz k (rows.set i LY) none)] b↔B5 (M 1000000) b:=by
   intro b;constructor
   · rintro ⟨j,o,h1,h2⟩;obtain ⟨rfl,rfl⟩:=IJ h1;exact h2
   · intro h;exact ⟨1000000,_,rfl,h⟩
 have other:∀b,B5 (M 1000000) b→¬(bc.2≠0∧b=bc.1)→w'.heap[b]?=w.heap[b]?∧¬F' b:=by
   intro b h1 h2;have Qh:b<w.heap.size:=hN.lt h1;refine ⟨hk.J5 b Qh (fun h3=>h2 ((Apm b).1 h3)),fun h3=>?_⟩;rcases hk.Fn b h3 with h4 | h4 | h4
   all_goals first
     | exact hN.Hl h1 h4
     | exact h2 ((Apm b).1 h4)
     | exact absurd Qh (Nat.not_lt.2 h4)
 have Afu:∀{j r'},(rows.set i LY)[j]?=some r'→(i=j∧r'=LY)∨(i≠j∧rows[j]?=some r'):=by
   intro j r' h;by_cases e:i=j
   · subst e;rw[List.getElem?_set_self AL] at h;exact .inl ⟨rfl,(Option.some.inj h).symm⟩
   · rw[List.getElem?_set_ne e] at h;exact .inr ⟨e,h⟩
 have hN':FR F' w' (M 1000000) t e sz (rows.set i LY) none:=by
   refine ⟨hN.pos,by simpa using hN.xl,by simpa using hN.le,hN.max,fun Hx=>?_,fun j r' b' h1 h2 h3=>?_,fun j b' h1 _=>(by cases h1),hN.dis,hN.out⟩
   · obtain ⟨g1,row,g2,g3,g4⟩:=hN.outer Hx;obtain ⟨g5,g6⟩:=other (M 1000000).BU (.inl ⟨Hx,rfl⟩) (fun h=>hN.out i bc Yv h.1 Hx h.2.symm);refine ⟨g6,row,by rw[g5];exact g2,g3,fun j r' b' h1 h2 h3=>?_⟩;rcases Afu h1 with ⟨rfl,rfl⟩ | ⟨_,h4⟩
     · rw[hlen];exact g4 i es b' hi h2 (by simp)
     · exact g4 j r' b' h4 h2 (by simp)
   · rcases Afu h1 with ⟨rfl,rfl⟩ | ⟨BC,h4⟩
     · rw[Yv] at h2;cases h2;exact Au0
     · refine (hN.rows j r' b' h4 h2 (by simp)).keep (fun b hb=>hk.J5 b (M7 b hb) (fun h=>Ahq.Hl h hb)) hk.F0 (fun r0=>other b'.1 (.inr ⟨j,b',h2,r0,rfl⟩) (fun h=>hN.dis i j bc b' Yv h2 BC h.1 r0 h.2.symm))
 refine ⟨v,_,r,F',M,he,⟨LY,rfl,hlen,hR2⟩,⟨fun j o hj=>?_,fun j o j' o' b hj ET _ _=>?_⟩,hp.dr S1,?_⟩
 · obtain ⟨rfl,rfl⟩:=IJ hj;exact hN'
 · rw[(IJ hj).1,(IJ ET).1]
 · have NQ:∀b,CL M1 [(1000000,AO.arr e sz es)] b→CL M [(1000000,AO.BP t e sz k rows none)] b:=fun b hb=>(Ash b).2 (.inr ⟨i,bc,Yv,(Apm b).1 hb⟩);refine ⟨hk.os,hk.tape,hk.output,hk.size,fun b h1 h2=>hk.J5 b h1 (fun h3=>h2 (NQ b h3)),hk.F0,fun b hb=>?_,hk.Fl,fun b hb=> .inl ((Ash b).2 ((Asg b).1 hb)),?_,Qc⟩
   · rcases hk.Fn b hb with h4 | h4 | h4
     · exact .inl h4
     · exact .inr (.inl (NQ b h4))
     · exact .inr (.inr h4)
   · have:sg [(1000000,AO.BP t e sz k (rows.set i LY) none)]=sg [(1000000,AO.BP t e sz k rows none)]:=by
       funext j
       unfold sg;simp only[AI];split<;>simp[AO.sg]
     show Ba M M (sg [(1000000,AO.BP t e sz k rows none)]) (sg [(1000000,AO.BP t e sz k (rows.set i LY) none)])
     rw[this];exact Ba.refl _ _
end Go.Am
namespace Go.Am
open Go
section
variable {P:Program} {c:Ctx} {st:St} {a:Act} {w:World} {F:Nat→Prop} {M:Nat→Mb}
theorem Rel.WI (hr:Rel c st a w F M) {q sz:Nat} {e e2:TypeId} (hn:get st.hp q=none) (CD:0<sz):
   Rel c {st with hp:=(q,.BP e e2 sz 0 [] none)::st.hp} a w F (Du M q ⟨0,0,[]⟩)∧∀ad,DR F w (Du M q ⟨0,0,[]⟩) (sg ((q,.BP e e2 sz 0 [] none)::st.hp)) (.BS q 0) (.slice ad 0 0):=by
 have AN:=Jv st.hp q (.BP e e2 sz 0 [] none);have hM:∀j,j≠q→Du M q ⟨0,0,[]⟩ j=M j:=fun j hj=>by simp[Du,hj]
 have HM:Du M q ⟨0,0,[]⟩ q=⟨0,0,[]⟩:=by simp[Du]
 have EU:=Em AN hM hn;have M5:∀b,¬B5 ⟨0,0,[]⟩ b:=fun b h=>by
   rcases h with ⟨h,_⟩ | ⟨i,bc,h1,_⟩
   · exact h rfl
   · simp at h1
 refine ⟨hr.change AN hM EU rfl rfl rfl (Nat.le_refl _) (fun b hb _=>rfl) ?_ (fun b h=>?_),fun ad=>?_⟩
 · rw[HM];exact ⟨CD,rfl,by simp,by simp,fun h=>(h rfl).elim,fun i r bc h=>by simp at h,fun i bc h=>(by cases h),fun i j bi bj h=>by simp at h,fun i bi h=>by simp at h⟩
 · rw[HM] at h;exact (M5 b h).elim
 · exact .BS q 0 sz 0 0 _ (by rw[Bv AN];simp[AO.sg]) (Nat.le_refl _) ⟨_,_,rfl,.inl rfl⟩ (fun _=>⟨ad,0,rfl,by omega,by omega,by rw[HM],.inl rfl⟩)
def Q9 (e:TypeId):Ans where
 sg:= .arr 1 1
 holds:=fun F w m=>¬F m.BU∧m.cap=1∧∃ad,w.heap[m.BU]?=some (.cells #[.slice ad 0 0] e (0,0))
 DO:=fun m b=>b=m.BU
 keep:=fun h hw hF ho=>by
   obtain ⟨h1,h2,ad,h3⟩:=h;obtain ⟨h4,h5⟩:=ho _ rfl;exact ⟨h5,h2,ad,by rw[h4];exact h3⟩
 Hl:=fun h hb=>by cases hb;exact h.1
 lt:=fun h hb=>by
   cases hb;obtain ⟨h1,h2,ad,h3⟩:=h;exact (Array.getElem?_eq_some_iff.1 h3).1
 Amw:=fun h _ h2=>by
   obtain ⟨h1,h3,ad,h4⟩:=h;exact ⟨h1,h3,ad,by rw[h2 _ h1];exact h4⟩
theorem Rel.Alz (hr:Rel c st a w F M) {q:Nat} {e:TypeId} {ad:Option Addr} (hn:get st.hp q=none):
   Rel c {st with hp:=(q,.Df (Q9 e))::st.hp} a (w.alloc (.cells #[.slice ad 0 0] e)) F (Du M q ⟨w.heap.size,1,[]⟩)∧
   DR F (w.alloc (.cells #[.slice ad 0 0] e)) (Du M q ⟨w.heap.size,1,[]⟩) (sg ((q,.Df (Q9 e))::st.hp)) (.ref q 0 1 1) (.slice (some ⟨w.heap.size,0,none⟩) 1 1):=by
 have AN:=Jv st.hp q (.Df (Q9 e));have hM:∀j,j≠q→Du M q ⟨w.heap.size,1,[]⟩ j=M j:=fun j hj=>by simp[Du,hj]
 have HM:Du M q ⟨w.heap.size,1,[]⟩ q=⟨w.heap.size,1,[]⟩:=by simp[Du]
 have EU:=Em AN hM hn;refine ⟨hr.change AN hM EU rfl rfl rfl (by simp) (fun b hb _=>alloc_old w _ b hb) ?_ (fun b hb=> .inr (by have:b=_:=hb;rw[this,HM];exact Nat.le_refl _)),?_⟩
 · rw[HM];exact ⟨fun hF=>Nat.lt_irrefl _ (hr.keep.Fl _ hF),rfl,ad,heap_alloc_new w _⟩
 · exact .ref q 0 1 1 1 1 _ (by rw[Bv AN,if_pos rfl];rfl) (Nat.le_refl _) ⟨_,_,_,rfl⟩ (fun _=>⟨_,1,rfl,by omega,by omega,by rw[HM],.inr (by rw[HM])⟩)
theorem Rel.Ar4 (hr:Rel c st a w F M) {id q2 t t2 ty e e2 e3:TypeId} {u2:TypeDesc} {i:TypeInfo} {z:Value} {sz k N:Nat} {rows:List (List (List Pd))} {vs vx:Value}
   (hg:get st.hp id=some (.BP e e2 sz k rows none)) (hN0:N=rows.length) (hv:DR F w M (sg st.hp) (.BS id N) vs) (hq:get st.hp q2=some (.Df (Q9 e3))) (hx:DR F w M (sg st.hp) (.ref q2 0 1 1) vx)
   (Dr:P.underlying t=some (.slice e)) (KL:P.underlying t2=some u2) (Vi:∀k,u2≠ .int k) (hi:P.info? e=some i) (hz:i.zero=some z) (CD:i.size=1) (hzs:z.cells.size=1)
   (hle:N+1≤140737488355328) (r4:(N+1)*i.bytes≤140737488355328):
   ∃v w' M',Rel c {st with hp:=Ae st.hp id (.BP e e2 sz (k+1) (rows++[[]]) none)} a w' F M'∧DR F w' M' (sg (Ae st.hp id (.BP e e2 sz (k+1) (rows++[[]]) none))) (.BS id (N+1)) v∧
     (Builtin.append_ #[t,t2] ty #[vs,vx]).run P w= .ok v w':=by
 subst hN0;have hn:FR F w (M id) e e2 sz rows none:=hr.heap.obj id _ hg;obtain ⟨hqF,hqc,Z1,hqh⟩:¬F (M q2).BU∧(M q2).cap=1∧∃ad,w.heap[(M q2).BU]?=some (.cells #[.slice ad 0 0] e3 (0,0)):=hr.heap.obj q2 _ hq;have W5:q2≠id:=fun e=>by rw[e,hg] at hq;cases hq
 obtain ⟨cap,ad,rfl,h5,h6,h7,h8⟩:∃cap ad,vs= .slice ad rows.length cap∧0+rows.length≤rows.length∧rows.length≤cap∧0+cap=(M id).cap∧(cap=0∨ad=some ⟨(M id).BU,0*1,none⟩):=by
   cases hv with
   | BS _ _ sz1 m1 k1 _ hs hN Qu h2=>
     rw[Bg hg] at hs;simp only[AO.sg,Option.some.injEq,Sg.BP.injEq] at hs;obtain ⟨rfl,rfl,rfl⟩:=hs;obtain ⟨ad,cap,h3,h4⟩:=h2 rfl;exact ⟨cap,ad,h3,h4⟩
 simp only[Nat.zero_add] at h7;subst h7;have Lu:vx= .slice (some ⟨(M q2).BU,0,none⟩) 1 1:=by
   cases hx with
   | ref _ _ _ _ sz1 n1 _ hs hN Qu h2=>
     rw[Bg hq] at hs;simp only[AO.sg,Q9,Option.some.injEq,Sg.arr.injEq] at hs;obtain ⟨rfl,rfl⟩:=hs;obtain ⟨ad2,cap2,rfl,g1,g2,g3,g4⟩:=h2 rfl;rw[Nat.zero_add,hqc] at g3;subst g3;rcases g4 with g4 | g4
     · cases g4
     · rw[g4]
 subst Lu;have Aor:∀w1:World,(Builtin.lenOf (.slice (some ⟨(M q2).BU,0,none⟩) 1 1)).run P w1= .ok 1 w1:=fun w1=>by simp[Builtin.lenOf]
 have hf1:∀w1:World,w1.heap=w.heap→(Builtin.firstCells i.size 1 (.slice (some ⟨(M q2).BU,0,none⟩) 1 1)).run P w1= .ok #[.slice Z1 0 0] w1:=fun w1 h1=>by
   have:=run_firstCells_some (P:=P) w1 i.size 1 ⟨(M q2).BU,0,none⟩ 1 1 [.slice Z1 0 0] (by simp[CD]) (fun j v hj=>by
     cases j with
     | zero=>
       simp only[List.getElem?_cons_zero,Option.some.injEq] at hj;subst hj;rw[Addr.add_lit,cell_of_row w1 (M q2).BU (0+0) #[.slice Z1 0 0] e3 (0,0) (by rw[h1];exact hqh)];rfl
     | succ j=>simp at hj)
   simpa using this
 have AN:∀j,get (Ae st.hp id (.BP e e2 sz (k+1) (rows++[[]]) none)) j=if j=id then some (.BP e e2 sz (k+1) (rows++[[]]) none) else get st.hp j:=A9 _ _ _
 have Vg:sg (Ae st.hp id (.BP e e2 sz (k+1) (rows++[[]]) none)) id=some (.BP sz (rows.length+1) (k+1)):=by rw[Bv AN];simp[AO.sg]
 have EU:∀mb,Ba M (Du M id mb) (sg st.hp) (sg (Ae st.hp id (.BP e e2 sz (k+1) (rows++[[]]) none))):=by
   intro mb;have hM:∀j,j≠id→Du M id mb j=M j:=fun j hj=>by simp[Du,hj]
   refine ⟨fun j hj=>?_,fun j s2 n2 hj=>?_,fun j s2 n2 k2 hj=>?_⟩
   · have e2:j≠id:=fun e2=>by rw[e2,Bg hg] at hj;simp[AO.sg] at hj
     rw[Bv AN,if_neg e2,hM j e2];exact ⟨hj,rfl⟩
   · have e2:j≠id:=fun e2=>by rw[e2,Bg hg] at hj;simp[AO.sg] at hj
     rw[Bv AN,if_neg e2,hM j e2];exact ⟨n2,hj,Nat.le_refl _,fun _=>rfl⟩
   · by_cases e2:j=id
     · subst e2;rw[Bg hg] at hj;simp only[AO.sg,Option.some.injEq,Sg.BP.injEq] at hj;obtain ⟨rfl,rfl,rfl⟩:=hj;exact ⟨_,_,Vg,by omega,by omega,fun h=>by omega,fun h=>by omega⟩
     · rw[Bv AN,if_neg e2,hM j e2];exact ⟨n2,k2,hj,Nat.le_refl _,Nat.le_refl _,fun _=>⟨rfl,rfl⟩,fun _=>rfl⟩
 have Fk:∀{j:Nat} {b:Nat×Nat},((M id).xs++[(0,0)])[j]?=some b→(M id).xs[j]?=some b∨(j=rows.length∧b=(0,0)):=by
   intro j b h;rw[List.getElem?_append] at h;split at h
   · exact .inl h
   · rename_i h1;rw[hn.xl] at h1 h;cases hj:j - rows.length with
     | zero=>
       rw[hj] at h;simp only[List.getElem?_cons_zero,Option.some.injEq] at h;exact .inr ⟨by omega,h.symm⟩
     | succ m=>rw[hj] at h;simp at h
 have hrs:∀{j:Nat} {r:List (List Pd)},(rows++[[]])[j]?=some r→(rows[j]?=some r∧j<rows.length)∨(j=rows.length∧r=[]):=by
   intro j r h;rw[List.getElem?_append] at h;split at h
   · rename_i h1;exact .inl ⟨h,h1⟩
   · rename_i h1;cases hj:j - rows.length with
     | zero=>
       rw[hj] at h;simp only[List.getElem?_cons_zero,Option.some.injEq] at h;exact .inr ⟨by omega,h.symm⟩
     | succ m=>rw[hj] at h;simp at h
 have mk:∀{w':World} {b cp:Nat},(∀b,F b→w'.heap[b]?=w.heap[b]?)→(∀(j:Nat) bc,(M id).xs[j]?=some bc→bc.2≠0→w'.heap[bc.1]?=w.heap[bc.1]?)→(∀(j:Nat) bc,(M id).xs[j]?=some bc→bc.2≠0→cp≠0→bc.1≠b)→
     rows.length+1≤cp→cp≤maxLen→¬F b→(∃row,w'.heap[b]?=some (.cells row e (0,0))∧row.size=cp∧(∀(j:Nat) r bc,rows[j]?=some r→(M id).xs[j]?=some bc→∃a,row.getD j undef= .slice a r.length bc.2∧(bc.2=0∨a=some ⟨bc.1,0,none⟩))∧∃a,row.getD rows.length undef= .slice a 0 0)→
     FR F w' ⟨b,cp,(M id).xs++[(0,0)]⟩ e e2 sz (rows++[[]]) none:=by
   intro w' b cp hF hxo hxb hl hm JU ⟨row,g1,g2,g3,g4⟩;refine ⟨hn.pos,by simp[hn.xl],by simpa using hl,hm,fun _=>⟨JU,row,g1,g2,fun j r bc h1 h2 _=>?_⟩,fun j r bc h1 h2 _=>?_,fun j bc h1 _=>(by cases h1),fun j1 j2 b1 b2 h1 h2 h3 h4 h5=>?_,fun j bi h1 h2 h3=>?_⟩
   · rcases hrs h1 with ⟨h3,h4⟩ | ⟨rfl,rfl⟩
     · rcases Fk h2 with h5 | ⟨rfl,_⟩
       · exact g3 j r bc h3 h5
       · omega
     · rcases Fk h2 with h5 | ⟨_,rfl⟩
       · have:=(List.getElem?_eq_some_iff.1 h5).1;rw[hn.xl] at this;omega
       · obtain ⟨a,h6⟩:=g4;exact ⟨a,h6,.inl rfl⟩
   · rcases hrs h1 with ⟨h3,h4⟩ | ⟨rfl,rfl⟩
     · rcases Fk h2 with h5 | ⟨rfl,_⟩
       · exact (hn.rows j r bc h3 h5 (by simp)).keep hF (fun _ h=>h) (fun hc=>⟨hxo j bc h5 hc,hn.Hl (.inr ⟨j,bc,h5,hc,rfl⟩)⟩)
       · omega
     · rcases Fk h2 with h5 | ⟨_,rfl⟩
       · have:=(List.getElem?_eq_some_iff.1 h5).1;rw[hn.xl] at this;omega
       · exact ⟨hn.pos,by simp,by simp,by simp,fun h=>(h rfl).elim⟩
   · rcases Fk h1 with h6 | ⟨_,rfl⟩
     · rcases Fk h2 with h7 | ⟨_,rfl⟩
       · exact hn.dis j1 j2 b1 b2 h6 h7 h3 h4 h5
       · exact (h5 rfl).elim
     · exact (h4 rfl).elim
   · rcases Fk h1 with h6 | ⟨_,rfl⟩
     · exact hxb j bi h6 h2 h3
     · exact (h2 rfl).elim
 have S1:∀{w':World} {b cp:Nat} {ad:Option Addr},rows.length+1≤cp→ad=some ⟨b,0,none⟩→DR F w' (Du M id ⟨b,cp,(M id).xs++[(0,0)]⟩) (sg (Ae st.hp id (.BP e e2 sz (k+1) (rows++[[]]) none))) (.BS id (rows.length+1)) (.slice ad (rows.length+1) cp):=by
   intro w' b cp ad h1 h2;exact .BS id _ sz (rows.length+1) (k+1) _ Vg (Nat.le_refl _) ⟨_,_,rfl,.inr ⟨_,h2⟩⟩ (fun _=>⟨ad,cp,rfl,by omega,h1,by simp[Du],.inr (by simp[Du,h2])⟩)
 have Ih:∀mb,Du M id mb id=mb:=fun mb=>by simp[Du]
 have Md:∀mb j,j≠id→Du M id mb j=M j:=fun mb j hj=>by simp[Du,hj]
 have Aop:∀{b' cp b:Nat},B5 ⟨b',cp,(M id).xs++[(0,0)]⟩ b→(cp≠0∧b=b')∨B5 (M id) b:=by
   intro b' cp b h;rcases h with ⟨h1,h2⟩ | ⟨j,bc,h1,h2,h3⟩
   · exact .inl ⟨h1,h2⟩
   · rcases Fk h1 with h4 | ⟨_,rfl⟩
     · exact .inr (.inr ⟨j,bc,h4,h2,h3⟩)
     · exact (h2 rfl).elim
 by_cases IH:rows.length+1≤(M id).cap
 · have SH:(M id).cap≠0:=by omega
   obtain rfl:=h8.resolve_left SH;obtain ⟨JU,row,Bj,E8,Bd⟩:=hn.outer SH;have Jp:=run_storeCells_at P (M id).BU (rows.length*i.size) e [.slice Z1 0 0] 0 row w Bj (by simp[CD];omega) (by intro v hv;simp at hv;subst hv;rfl);simp only[Nat.add_zero] at Jp;have BW:=FU (P:=P) (w:=w) (ty:=ty) Dr KL Vi hi (base:=some ⟨(M id).BU,0*1,none⟩) (n:=rows.length) (Aor w) (hf1 w rfl) IH
     (fun ad' e3=>by cases e3;rw[Addr.add_lit];simp only[Nat.zero_mul,Nat.zero_add];exact Jp) (fun e3=>by cases e3)
   simp only[CD,Nat.mul_one,List.length_cons,List.length_nil,Nat.zero_add] at BW Jp;have FH:∀p,((row.toList.take rows.length++[Value.slice Z1 0 0]++row.toList.drop (rows.length+1)).toArray).getD p undef=if p=rows.length then .slice Z1 0 0 else row.getD p undef:=by
     intro p;have e1:row.toList.take rows.length++[Value.slice Z1 0 0]++row.toList.drop (rows.length+1)=row.toList.set rows.length (.slice Z1 0 0):=by
       rw[List.set_eq_take_append_cons_drop,if_pos (by simp;omega)];simp
     rw[e1];simp only[Array.getD_eq_getD_getElem?,List.getElem?_toArray,List.getElem?_set];by_cases e2:rows.length=p
     · subst e2;have h9:rows.length<row.size:=by omega
       simp[h9]
     · rw[if_neg e2,if_neg (Ne.symm e2)];simp
   have Aq4:((row.toList.take rows.length++[Value.slice Z1 0 0]++row.toList.drop (rows.length+1)).toArray).size=(M id).cap:=by
     simp;omega
   refine ⟨_,_,Du M id ⟨(M id).BU,(M id).cap,(M id).xs++[(0,0)]⟩,hr.change (w':=w.setRow (M id).BU (row.toList.take rows.length++[Value.slice Z1 0 0]++row.toList.drop (rows.length+1)).toArray) AN (Md _) (EU _) rfl rfl rfl (by simp)
     (fun b hb BC=>setRow_other w _ b _ (fun e=>BC _ hg (.inl ⟨SH,e⟩))) ?_ (fun b hb=> .inl ⟨_,hg,?_⟩),S1 IH rfl,BW⟩
   · rw[Ih];exact mk (fun b hb=>setRow_other w _ b _ (fun e=>JU (e ▸ hb))) (fun j bc h1 h2=>setRow_other w _ _ _ (hn.out j bc h1 h2 SH)) (fun j bc h1 h2 _=>hn.out j bc h1 h2 SH) IH hn.max JU
       ⟨_,setRow_heap w _ _ _ e (0,0) Bj,Aq4,fun j r bc h1 h2=>by
         obtain ⟨a,h3,h4⟩:=Bd j r bc h1 h2 (by simp);have:=(List.getElem?_eq_some_iff.1 h1).1;exact ⟨a,by rw[FH,if_neg (by omega)];exact h3,h4⟩,Z1,by rw[FH,if_pos rfl]⟩
   · rw[Ih] at hb;rcases Aop hb with ⟨_,h1⟩ | h1
     · exact .inl ⟨SH,h1⟩
     · exact h1
 ·
   obtain ⟨GR,Ys,SF,ho3⟩:∃GR:Array Value,GR.size=rows.length∧(Builtin.firstCells i.size rows.length (.slice ad rows.length (M id).cap)).run P w.drew= .ok GR w.drew∧
       ∀(j:Nat) r bc,rows[j]?=some r→(M id).xs[j]?=some bc→∃a,GR.getD j undef= .slice a r.length bc.2∧(bc.2=0∨a=some ⟨bc.1,0,none⟩):=by
     by_cases h0:(M id).cap=0
     · have h1:rows=[]:=List.eq_nil_of_length_eq_zero (by omega);subst h1;refine ⟨#[],rfl,?_,fun j r bc h=>by simp at h⟩;cases ad<;>simp[Builtin.firstCells,loadCells,loadCellsFrom]
     · obtain rfl:=h8.resolve_left h0;obtain ⟨JU,row,Bj,E8,Bd⟩:=hn.outer h0;have hl:(row.toList.take rows.length).length=rows.length:=by simp;omega
       refine ⟨(row.toList.take rows.length).toArray,by simpa using hl,?_,fun j r bc h1 h2=>?_⟩
       · refine run_firstCells_some (P:=P) w.drew i.size rows.length ⟨(M id).BU,0*1,none⟩ rows.length (M id).cap _ (by rw[hl,CD];omega) (fun j v hj=>?_);rw[Addr.add_lit,cell_of_row w.drew (M id).BU (0*1+j) row e (0,0) Bj];rw[List.getElem?_take] at hj;split at hj
         · simpa using hj
         · cases hj
       · obtain ⟨a,h3,h4⟩:=Bd j r bc h1 h2 (by simp);have:=(List.getElem?_eq_some_iff.1 h1).1;refine ⟨a,?_,h4⟩;rw[←h3];simp[Array.getD_eq_getD_getElem?,List.getElem?_take,this]
   have BW:=E2 (P:=P) (w:=w) (ty:=ty) Dr KL Vi hi hz (base:=ad) (n:=rows.length) (cap:=(M id).cap) (Aor w) (hf1 w.drew rfl) SF (by omega) hle r4;have O4:=grownCap_ge w (rows.length+1) (M id).cap e;have TX:=grownCap_le_maxLen w (rows.length+1) (M id).cap e (by unfold maxLen;omega);generalize hcp:grownCap w (rows.length+1) (M id).cap e=cp at BW O4 TX;have KQ:=heap_alloc_new w.drew (.cells (GR++#[Value.slice Z1 0 0]++Builtin.zeroCells z.cells (cp - (rows.length+1))) e);have hold:∀b,b<w.heap.size→(w.drew.alloc (.cells (GR++#[Value.slice Z1 0 0]++Builtin.zeroCells z.cells (cp - (rows.length+1))) e)).heap[b]?=w.heap[b]?:=fun b hb=>alloc_old w.drew _ b hb;refine ⟨_,_,Du M id ⟨w.heap.size,cp,(M id).xs++[(0,0)]⟩,hr.change (w':=w.drew.alloc (.cells (GR++#[Value.slice Z1 0 0]++Builtin.zeroCells z.cells (cp - (rows.length+1))) e)) AN (Md _) (EU _) rfl rfl rfl (by simp)
     (fun b hb _=>hold b hb) ?_ (fun b hb=>?_),S1 O4 rfl,BW⟩
   · rw[Ih];refine mk (fun b hb=>hold b (hr.keep.Fl b hb)) (fun j bc h1 h2=>hold _ (hn.lt (.inr ⟨j,bc,h1,h2,rfl⟩))) (fun j bc h1 h2 _=>Nat.ne_of_lt (hn.lt (.inr ⟨j,bc,h1,h2,rfl⟩))) O4 TX (fun hF=>Nat.lt_irrefl _ (hr.keep.Fl _ hF))
       ⟨_,KQ,by simp[EW,hzs,Ys];omega,fun j r bc h1 h2=>?_,Z1,?_⟩
     · obtain ⟨a,h3,h4⟩:=ho3 j r bc h1 h2;have:=(List.getElem?_eq_some_iff.1 h1).1;refine ⟨a,?_,h4⟩;rw[←h3];simp only[Array.getD_eq_getD_getElem?];rw[Array.getElem?_append_left (by simp;omega),Array.getElem?_append_left (by omega)]
     · simp only[Array.getD_eq_getD_getElem?];rw[Array.getElem?_append_left (by simp;omega),Array.getElem?_append_right (by omega),Ys];simp
   · rw[Ih] at hb;rcases Aop hb with ⟨_,h1⟩ | h1
     · exact .inr (by rw[h1];exact Nat.le_refl _)
     · exact .inl ⟨_,hg,h1⟩
end
end Go.Am
namespace Go.Am
open Go
section
variable {P:Program} {ops rest:List Oper} {k:Kt} {st:St} {o:Oper}
theorem Arx (hc:Bz o.op=none) (h:mOp P st (o.dst.getD 0) o.op fun d h'=>O P true ops rest k (({st with hp:=h'}:St).put o.dst d)):Af P true ops rest k o st .fail:=by
 refine HJ fun ct a w F M Q hr=>?_;obtain ⟨d,h',v,w',F',M',hk,IZ,hF,hd,BW⟩:=DQ hr h;unfold Oper.wp;rcases BW with BW | ⟨rfl,BW⟩
 · rw[BW];exact ⟨_,F',M',hk,IZ.put hd o.dst⟩
 · rw[BW];exact ⟨_,F',M',hk,IZ.put hd o.dst⟩
theorem Al6 {t e e2:TypeId} {x:Operand} {s1 b1 b2:Nat} {z1:D} (ho:o.op= .buildSlice t 1 #[(0,x)]) (ht:AT P t=some ⟨s1,b1,.slice e,z1⟩) (hte:AT P e=some ⟨1,b2,.slice e2,.cl []⟩)
   (hx:ev st x= .cl []) (hq:get st.hp (o.dst.getD 0)=none)
   (h:O P true ops rest k (({st with hp:=(o.dst.getD 0,.arr e 1 [[.sl []]])::st.hp}:St).put o.dst (.ref (o.dst.getD 0) 0 1 1))):Af P true ops rest k o st .fail:=by
 refine Arx (by rw[ho];rfl) ?_;rw[ho];simp only[mOp,ht,hte,List.map_cons,List.map_nil,hx];exact ⟨by omega,by omega,by simpa [Ee,D.cells,D.one,Fp,Iw,chunk,hq] using h⟩
theorem range_one:Array.range 1=#[0]:=rfl
theorem Al5 {t e e2:TypeId} {x:Operand} {s1 b1 b2:Nat} {z1:D} (ho:o.op= .buildSlice t 1 #[(0,x)]) (ht:AT P t=some ⟨s1,b1,.slice e,z1⟩) (hte:AT P e=some ⟨1,b2,.slice e2,.cl []⟩)
   (hx:ev st x= .cl []) (hq:get st.hp (o.dst.getD 0)=none)
   (h:O P true ops rest k (({st with hp:=(o.dst.getD 0,.Df (Q9 e))::st.hp}:St).put o.dst (.ref (o.dst.getD 0) 0 1 1))):Af P true ops rest k o st .fail:=by
 refine HJ fun ct a w F M Q hr=>?_;obtain ⟨i1,u1,z1',HP,Dr,hz1,e1⟩:=Az ht;simp only[TI.mk.injEq] at e1;obtain rfl:=TK.of_slice e1.2.2.1.symm;obtain ⟨i,u,z,hi,hu,hz,e3⟩:=Az hte;simp only[TI.mk.injEq] at e3;obtain ⟨e4,e5,e6,e7⟩:=e3;have hzv:=Qq e7.symm;subst hzv;have Rx:=AF hr x;rw[hx] at Rx;generalize Lu:a.eval x=vx at Rx;cases Rx with
 | cl _ ad _ _=>
   obtain ⟨h2,h3⟩:=hr.Alz (q:=o.dst.getD 0) (e:=e) (ad:=ad) hq;unfold Oper.wp;have hex:(execOp a.eval o).run P w= .ok (.value (.slice (some ⟨w.heap.size,0,none⟩) 1 1)) (w.alloc (.cells #[.slice ad 0 0] e)):=by
     simp[execOp,ho,Instr.buildSlice,run_underlying Dr,Result.andThen,BE hi,←e4,Hf hi hz,Value.cells,Instr.fill,Lu,newRow,range_one,Nat.mod_one]
   rw[hex];exact ⟨_,F,_,h,h2.put h3 o.dst⟩
theorem Aew {c:Call} {x y:Operand} {id q2 t t2 e e2 e3 e4:TypeId} {s1 b1 b2 sz kk N s2 b4:Nat} {z1 z2:D} {rows:List (List (List Pd))} (ho:o.op= .call c) (hc:c.callee= .builtin .append) (ha:c.args=#[x,y]) (hta:c.argTypes=#[t,t2])
   (ht:AT P t=some ⟨s1,b1,.slice e,z1⟩) (ht2:AT P t2=some ⟨s2,b4,.slice e4,z2⟩) (hte:AT P e=some ⟨1,b2,.slice e2,.cl []⟩)
   (hx:ev st x= .BS id N) (hg:get st.hp id=some (.BP e e2 sz kk rows none)) (hN:N=rows.length) (hy:ev st y= .ref q2 0 1 1) (hq:get st.hp q2=some (.Df (Q9 e3)))
   (hle:N+1≤140737488355328) (r4:(N+1)*b2≤140737488355328)
   (h:O P true ops rest k (({st with hp:=Ae st.hp id (.BP e e2 sz (kk+1) (rows++[[]]) none)}:St).put o.dst (.BS id (N+1)))):Af P true ops rest k o st .fail:=by
 refine HJ fun ct a w F M Q hr=>?_;obtain ⟨i1,u1,z1',HP,Dr,hz1,e1⟩:=Az ht;simp only[TI.mk.injEq] at e1;obtain rfl:=TK.of_slice e1.2.2.1.symm;obtain ⟨i2,u2,z2',C0,KL,hz2,e21⟩:=Az ht2;simp only[TI.mk.injEq] at e21;obtain rfl:=TK.of_slice e21.2.2.1.symm;obtain ⟨i,u,z,hi,hu,hz,e31⟩:=Az hte;simp only[TI.mk.injEq] at e31;obtain ⟨e41,e5,e6,e7⟩:=e31;have hzv:=Qq e7.symm;subst hzv;have Rx:=AF hr x;rw[hx] at Rx;have hy':=AF hr y;rw[hy] at hy';obtain ⟨v,w',M',h1,h2,h3⟩:=hr.Ar4 (P:=P) (ty:=o.type) hg hN Rx hq hy' Dr KL (fun k h=>by cases h) hi hz e41.symm rfl hle (by rw[←e5];exact r4);unfold Oper.wp;have hex:(execOp a.eval o).run P w= .ok (.value v) w':=by
   simp[execOp,ho,hc,ha,hta,resolve,invoke,builtin,h3,Result.andThen]
 rw[hex];exact ⟨_,F,M',h,h1.put h2 o.dst⟩
end
theorem Wk.Aly {st:St} {id j q sz:Nat} {cs:List D} {ty:TypeId} (e e2:TypeId) (hb:get st.hp id=some (.box cs ty)) (hj:cs[j]?=some (.cl [])) (hq:get st.hp q=none) (hs:0<sz):
   Wk st ⟨st.env,(q,.BP e e2 sz 0 [] none)::Ae st.hp id (.box (cs.set j (.BS q 0)) ty),st.n⟩:=by
 intro c a w F M hr;obtain ⟨D6,h1⟩:=hr.WI (e:=e) (e2:=e2) hq hs;have BC:id≠q:=fun h=>by subst h;rw[hq] at hb;cases hb
 have Ou:get ((q,AO.BP e e2 sz 0 [] none)::st.hp) id=some (.box cs ty):=by rw[AI,if_neg (Ne.symm BC)];exact hb
 have AN:∀i,get ((q,AO.BP e e2 sz 0 [] none)::Ae st.hp id (.box (cs.set j (.BS q 0)) ty)) i=if i=id then some (.box (cs.set j (.BS q 0)) ty) else get ((q,AO.BP e e2 sz 0 [] none)::st.hp) i:=by
   intro i;simp only[AI,A9];by_cases e1:i=id
   · subst e1;simp[Ne.symm BC]
   · by_cases e2:q=i
     · subst e2;simp[e1]
     · simp[e1,e2]
 have E9:=BZ AN Ou rfl;have Ahf:=D6.heap.obj id _ Ou;obtain ⟨JU,row,t,Bj,CD,Bd⟩:=Ahf;refine ⟨F,Du M q ⟨0,0,[]⟩,?_⟩;refine D6.change (st:=⟨st.env,(q,AO.BP e e2 sz 0 [] none)::st.hp,st.n⟩) AN (fun _ _=>rfl) (by rw[E9];exact Ba.refl _ _) rfl rfl rfl (Nat.le_refl _) (fun _ _ _=>rfl) ?_ (fun b hb=> .inl ⟨_,Ou,hb⟩);refine ⟨JU,row,t,Bj,by simpa using CD,fun i d hd=>?_,fun h5 h6 i hi=>?_⟩;rotate_left
 · refine Bd.2 h5 ?_ i ?_
   · obtain ⟨x,hx,hn⟩:=List.any_eq_true.1 h6;rcases List.mem_or_eq_of_mem_set hx with h7 | rfl
     · exact List.any_eq_true.2 ⟨x,h7,hn⟩
     · cases hn
   · by_cases e1:i=j
     · subst e1;rw[List.getElem?_set_self (List.getElem?_eq_some_iff.1 hj).1] at hi;cases hi
     · rwa[List.getElem?_set_ne (Ne.symm e1)] at hi
 rw[E9];by_cases e1:i=j
 · subst e1;have AL:=(List.getElem?_eq_some_iff.1 hj).1;rw[List.getElem?_set_self AL] at hd;cases hd;have h2:=Bd.1 i _ hj;refine ⟨?_,h2.2⟩;have h3:=h2.1;generalize row.getD i undef=v at h3;cases h3 with | cl _ ad _ _=>exact h1 ad
 · rw[List.getElem?_set_ne (Ne.symm e1)] at hd;exact Bd.1 i d hd
end Go.Am
namespace Go.Am
open Go
theorem Aj.seal {P:Program} {f:FuncId} {args:List D} {h:Hp} {R R':Hp→D→Prop} (hc:Aj P f args h R) (hR:∀h' r,R h' r→Db h' r fun d h2=>No (h.map (·.1)) h2 d R'):Aj P f args h R':=by
 intro vs w F M J2 M7 Qc hd;refine (hc vs w F M J2 M7 Qc hd).mono ?_;rintro e w' ⟨v,h',r,F',M',rfl,hr,S2,Vm,hk⟩;have Aqa:Rel ⟨w,F,CL M h,M,sg h⟩ ⟨[],h',0⟩ ⟨#[],[]⟩ w' F' M':=⟨fun t d ht=>by simp[get] at ht,rfl,rfl,S2,hk⟩;obtain ⟨d,h2,F2,HL,At5,_,_,Hw⟩:=MV r Aqa Vm (hR h' r hr);obtain ⟨h3,r2,M2,h4,h5,h6,h7⟩:=Mq At5 rfl (fun _=>Iff.rfl) Hw HL;exact ⟨v,h3,r2,F2,M2,rfl,h4,h5,h6,h7⟩
end Go.Am
end
section
set_option linter.unusedVariables false
set_option linter.unusedSimpArgs false
namespace Go.Am
open Go
def DD (sz n:Nat):Ans where
 sg:= .arr sz n
 holds:=fun _ _ _=>True
 DO:=fun _ _=>False
 keep:=fun _ _ _ _=>trivial
 Hl:=fun _ h=>h.elim
 lt:=fun _ h=>h.elim
 Amw:=fun _ _ _=>trivial
section
variable {c:Ctx} {st:St} {a:Act} {w:World} {F:Nat→Prop} {M:Nat→Mb}
theorem Rel.move (hr:Rel c st a w F M) {q q' k sz:Nat} {e:TypeId} {es:List (List Pd)} (hq:get st.hp q=some (.arr e sz es)) (hk:k≤es.length) (Yr:get st.hp q'=none):
   Rel c ⟨st.env,(q',.arr e sz (es.take k))::Ae st.hp q (.Df (DD sz (es.length+1))),st.n⟩ a w F (Du M q' (M q))∧
     ∀v,DR F w M (sg st.hp) (.ref q 0 k es.length) v→DR F w (Du M q' (M q)) (sg ((q',.arr e sz (es.take k))::Ae st.hp q (.Df (DD sz (es.length+1))))) (.ref q' 0 k k) v:=by
 have BC:q'≠q:=fun h=>by subst h;rw[hq] at Yr;cases Yr
 have AN:∀i,get ((q',AO.arr e sz (es.take k))::Ae st.hp q (.Df (DD sz (es.length+1)))) i=if i=q' then some (.arr e sz (es.take k)) else if i=q then some (.Df (DD sz (es.length+1))) else get st.hp i:=by
   intro i;simp only[AI,A9];by_cases e1:q'=i
   · subst e1;simp
   · rw[if_neg e1,if_neg (Ne.symm e1)]
 have hMo:∀i,i≠q'→Du M q' (M q) i=M i:=fun i hi=>by simp[Du,hi]
 have HM:Du M q' (M q) q'=M q:=by simp[Du]
 have hlen:(es.take k).length=k:=by simp;omega
 have Aq6:∀i,i≠q'→i≠q→sg ((q',AO.arr e sz (es.take k))::Ae st.hp q (.Df (DD sz (es.length+1)))) i=sg st.hp i:=fun i h1 h2=>by
   simp[sg,AN,h1,h2]
 have SY:sg st.hp q=some (.arr sz es.length):=by simp[sg,hq,AO.sg]
 have At2:sg ((q',AO.arr e sz (es.take k))::Ae st.hp q (.Df (DD sz (es.length+1)))) q=some (.arr sz (es.length+1)):=by
   unfold sg;rw[AN,if_neg (Ne.symm BC),if_pos rfl];rfl
 have OW:sg ((q',AO.arr e sz (es.take k))::Ae st.hp q (.Df (DD sz (es.length+1)))) q'=some (.arr sz k):=by
   unfold sg;rw[AN,if_pos rfl];simp[AO.sg,hk]
 have Aq8:sg st.hp q'=none:=by simp[sg,Yr]
 have Fu:Ba M (Du M q' (M q)) (sg st.hp) (sg ((q',AO.arr e sz (es.take k))::Ae st.hp q (.Df (DD sz (es.length+1))))):=by
   refine ⟨fun i hi=>?_,fun i s n hi=>?_,fun i s n kk hi=>?_⟩
   · have h1:i≠q':=fun h=>by rw[h,Aq8] at hi;cases hi
     have h2:i≠q:=fun h=>by rw[h,SY] at hi;cases hi
     rw[Aq6 i h1 h2,hMo i h1];exact ⟨hi,rfl⟩
   · have h1:i≠q':=fun h=>by rw[h,Aq8] at hi;cases hi
     by_cases h2:i=q
     · subst h2;rw[SY] at hi;cases hi;exact ⟨es.length+1,At2,by omega,fun h=>by omega⟩
     · rw[Aq6 i h1 h2,hMo i h1];exact ⟨n,hi,Nat.le_refl _,fun _=>rfl⟩
   · have h1:i≠q':=fun h=>by rw[h,Aq8] at hi;cases hi
     have h2:i≠q:=fun h=>by rw[h,SY] at hi;cases hi
     rw[Aq6 i h1 h2,hMo i h1];exact ⟨n,kk,hi,Nat.le_refl _,Nat.le_refl _,fun _=>⟨rfl,rfl⟩,fun _=>rfl⟩
 have hF:∀b,F b→w.heap[b]?=w.heap[b]?:=fun _ _=>rfl;have Ahb:∀i o b,get ((q',AO.arr e sz (es.take k))::Ae st.hp q (.Df (DD sz (es.length+1)))) i=some o→o.DO (Du M q' (M q) i) b→
     ∃i0 o0,get st.hp i0=some o0∧o0.DO (M i0) b∧(i=q'→i0=q)∧(i≠q'→i0=i∧i≠q):=by
   intro i o b hi ho;rw[AN] at hi;by_cases h1:i=q'
   · subst h1;rw[if_pos rfl] at hi;cases hi;rw[HM] at ho;exact ⟨q,_,hq,ho,fun _=>rfl,fun h=>(h rfl).elim⟩
   · rw[if_neg h1] at hi;by_cases h2:i=q
     · subst h2;rw[if_pos rfl] at hi;cases hi;exact ho.elim
     · rw[if_neg h2] at hi;rw[hMo i h1] at ho;exact ⟨i,o,hi,ho,fun h=>(h1 h).elim,fun _=>⟨rfl,h2⟩⟩
 refine ⟨⟨fun t d ht=>(hr.env t d ht).keep hF (fun _ h=>h) Fu,hr.size,hr.defers,⟨fun i o hi=>?_,fun i o i' o' b hi RF ho Lv=>?_⟩,?_⟩,fun v hv=>?_⟩
 · rw[AN] at hi;by_cases h1:i=q'
   · subst h1;rw[if_pos rfl] at hi;cases hi;rw[HM];obtain ⟨g1,g2,g3,g4,g5⟩:=hr.heap.obj q _ hq;refine ⟨g1,by rw[hlen];omega,g3,fun j x hx=>?_,fun hc=>?_⟩
     · rw[List.getElem?_take] at hx;split at hx
       · exact g4 j x hx
       · cases hx
     · obtain ⟨f1,row,f2,f3,f4⟩:=g5 hc;refine ⟨f1,row,f2,f3,fun j x l y hx hy=>?_⟩;rw[List.getElem?_take] at hx;split at hx
       · exact f4 j x l y hx hy
       · cases hx
   · rw[if_neg h1] at hi;by_cases h2:i=q
     · subst h2;rw[if_pos rfl] at hi;cases hi;exact trivial
     · rw[if_neg h2] at hi;rw[hMo i h1];exact (hr.heap.obj i o hi).keep hF (fun _ h=>h) Fu (fun b A6=>⟨rfl,hr.heap.Hl ⟨i,o,hi,A6⟩⟩)
 · obtain ⟨j,p,h1,h2,h3,h4⟩:=Ahb i o b hi ho;obtain ⟨j',p',CO,EV,h3',h4'⟩:=Ahb i' o' b RF Lv;have hj:=hr.heap.inj j p j' p' b h1 CO h2 EV;by_cases e1:i=q'
   · by_cases e2:i'=q'
     · rw[e1,e2]
     · have:=h4' e2;have:=h3 e1;omega
   · by_cases e2:i'=q'
     · have:=h4 e1;have:=h3' e2;omega
     · have:=h4 e1;have:=h4' e2;omega
 · have hk:=hr.keep;refine ⟨hk.os,hk.tape,hk.output,hk.size,hk.J5,hk.F0,hk.Fn,hk.Fl,?_,hk.Tm.trans Fu,hk.YN⟩;rintro b ⟨i,o,hi,ho⟩;obtain ⟨j,p,h1,h2,_⟩:=Ahb i o b hi ho;exact hk.own _ ⟨j,p,h1,h2⟩
 · cases hv with
   | ref id off len N Pv n v hs hN hva h=>
     rw[SY] at hs;cases hs;obtain ⟨ad,cap,g1,g2,g3,g4,g5⟩:=h rfl;refine .ref q' 0 k k sz k _ OW (Nat.le_refl _) hva fun _=>?_;rw[PB,HM];exact ⟨ad,cap,g1,by omega,g3,g4,g5⟩
theorem Wk.FV {st:St} {id j q k sz:Nat} (q':Nat) {cs:List D} {ty e:TypeId} {es:List (List Pd)} (hb:get st.hp id=some (.box cs ty)) (hj:cs[j]?=some (.ref q 0 k es.length)) (hq:get st.hp q=some (.arr e sz es))
   (hk:k≤es.length) (Yr:get st.hp q'=none):
   Wk st ⟨st.env,Ae ((q',.arr e sz (es.take k))::Ae st.hp q (.Df (DD sz (es.length+1)))) id (.box (cs.set j (.ref q' 0 k k)) ty),st.n⟩:=by
 intro c a w F M hr;obtain ⟨D6,h2⟩:=hr.move hq hk Yr;have BC:id≠q:=fun h=>by subst h;rw[hq] at hb;cases hb
 have Ate:id≠q':=fun h=>by subst h;rw[Yr] at hb;cases hb
 have Ou:get ((q',AO.arr e sz (es.take k))::Ae st.hp q (.Df (DD sz (es.length+1)))) id=some (.box cs ty):=by
   rw[AI,if_neg (Ne.symm Ate),A9,if_neg BC];exact hb
 have AN:∀i,get (Ae ((q',AO.arr e sz (es.take k))::Ae st.hp q (.Df (DD sz (es.length+1)))) id (.box (cs.set j (.ref q' 0 k k)) ty)) i=
     if i=id then some (.box (cs.set j (.ref q' 0 k k)) ty) else get ((q',AO.arr e sz (es.take k))::Ae st.hp q (.Df (DD sz (es.length+1)))) i:=fun i=>by rw[A9]
 have E9:=BZ AN Ou rfl;have hold:=(hr.heap.obj id _ hb);obtain ⟨JU,row,t,Bj,CD,Bd⟩:=D6.heap.obj id _ Ou;obtain ⟨_,Aw0,t0,Aom,_,q0⟩:=hold;have Ih:Du M q' (M q) id=M id:=by simp[Du,Ate]
 rw[Ih] at JU Bj;rw[Aom] at Bj;simp only[Option.some.injEq,Obj.cells.injEq] at Bj;obtain ⟨rfl,hty,_⟩:=Bj;refine ⟨F,Du M q' (M q),?_⟩;refine D6.change (st:=⟨st.env,(q',AO.arr e sz (es.take k))::Ae st.hp q (.Df (DD sz (es.length+1))),st.n⟩) AN (fun _ _=>rfl) (by rw[E9];exact Ba.refl _ _) rfl rfl rfl (Nat.le_refl _) (fun _ _ _=>rfl) ?_ (fun b hb=> .inl ⟨_,Ou,hb⟩);rw[Ih];refine ⟨JU,Aw0,t0,Aom,by simpa using CD,fun i d hd=>?_,fun h5 h6 i hi=>?_⟩;rotate_left
 · refine q0.2 h5 ?_ i ?_
   · obtain ⟨x,hx,hn⟩:=List.any_eq_true.1 h6;rcases List.mem_or_eq_of_mem_set hx with h7 | rfl
     · exact List.any_eq_true.2 ⟨x,h7,hn⟩
     · cases hn
   · by_cases e1:i=j
     · subst e1;rw[List.getElem?_set_self (List.getElem?_eq_some_iff.1 hj).1] at hi;cases hi
     · rwa[List.getElem?_set_ne (Ne.symm e1)] at hi
 rw[E9];by_cases e1:i=j
 · subst e1;have AL:=(List.getElem?_eq_some_iff.1 hj).1;rw[List.getElem?_set_self AL] at hd;cases hd;have h3:=q0.1 i _ hj;exact ⟨h2 _ h3.1,h3.2⟩
 · rw[List.getElem?_set_ne (Ne.symm e1)] at hd;exact Bd.1 i d hd
end
end Go.Am
namespace Go.Am
open Go
section
variable {P:Program} {c:Ctx} {st:St} {a:Act} {w:World} {F:Nat→Prop} {M:Nat→Mb}
theorem Wk.Ar0 {t:Nat} {es:List (List Pd)} (ht:get st.env t=some (.cz es)):Wk st ⟨(t,.p (.sl es))::st.env,st.hp,st.n⟩:=by
 intro c a w F M hr;refine ⟨F,M,⟨fun j d hj=>?_,hr.size,hr.defers,hr.heap,hr.keep⟩⟩;rw[AI] at hj;split at hj
 · rename_i e1;subst e1;cases hj;have h2:=hr.env _ _ ht;generalize a.tmps.getD t undef=v at h2;cases h2 with | cz _ ad h=>exact .p h
 · exact hr.env j d hj
end
end Go.Am
end
