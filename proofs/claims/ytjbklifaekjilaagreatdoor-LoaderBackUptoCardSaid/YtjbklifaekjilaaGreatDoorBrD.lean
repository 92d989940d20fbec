/- Texts of this proof, what it rests on, merged: part D. -/
import Derived.Lib.ConvBytes
import Derived.Lib.OthersKept
import Derived.ScopeJumps
import Derived.Laws.IdiomStrings
import Derived.Lib.LaidTab
import Derived.Lib.ItoaNum
import Derived.Sort.Grow
import Derived.Deep.Draws
import Derived.Below
import Derived.LaidSub
import Derived.Test.YtjbklifaekjilaaGreatDoorBrC
section
set_option linter.unusedVariables false
set_option linter.unusedSimpArgs false
namespace Go.Am
open Go Go.ChangeShapes Go.RowKit
def wtF(p:Field->List Pd->Prop):List Field->List Pd->Prop
 | [],cs=>cs=[]
 | f::r,cs=>∃a b,cs=a++b/\p f a/\wtF p r b
def wtP(P:Program):Nat->TypeId->List Pd->Prop
 | 0,_,_=>False
 | n+1,t,cs=>match P.underlying t with
   | some .bool=>∃b,cs=[.bool b]
   | some (.int k)=>∃v,cs=[.int k v]/\(Lit.int k v).wf=true
   | some .string=>∃l,cs=[.str l]
   | some (.slice e)=>∃es,cs=[.sl es]/\∀y∈es,wtP P n e y
   | some (.struct fs)=>wtF (λ f=>wtP P n f.type) fs.toList cs
   | some (.array k e)=>∃es:List (List Pd),cs=es.flatten/\es.length=k/\∀y∈es,wtP P n e y
   | _=>False
section
variable {H:Type} {enc:TypeId×Value->H} {P:Program} {w:World} {spare:Nat->Bool} {held:Bool}
theorem Yn{p:Field->List Pd->Prop}:∀(fs:List Field) (xs:List (DataW H×List MemPlace)),xs.length=fs.length->(∀(i:Nat) f x,fs[i]?=some f->xs[i]?=some x->p f (E7 x.1))->wtF p fs (LH (xs.map (·.1)))
 | [],xs,hl,_=>by
   have:xs=[]:=A1 hl;subst this;rfl
 | f::r,xs,hl,h=>by
   cases xs with
   | nil=>simp at hl
   | cons x xs=>exact ⟨E7 x.1,LH (xs.map (·.1)),rfl,h 0 f x rfl rfl,Yn r xs (by simpa using hl) λ i g y hg hy=>h (i+1) g y (by simpa using hg) (by simpa using hy)⟩
theorem T3:∀(xs:List (DataW H×List MemPlace)),LH (xs.map (·.1))=(xs.map λ x=>E7 x.1).flatten
 | []=>rfl
 | x::r=>by simp only[AD,LH,List.flatten_cons,T3 r]
theorem Ap9:∀(m:Nat) (t:TypeId),FW P m t=true->∀(fuel:Nat) (cs:List Value) (x:DataW H×List MemPlace),
   DataW.trod enc P w 0 spare held fuel t cs=some x->wtP P m t (E7 x.1):=by
 intro m
 induction m with
 | zero=>intro t h;simp[FW] at h
 | succ m ih=>
   intro t ht fuel cs x h;simp only[FW] at ht;simp only[wtP];split at ht
   . rename_i hu;obtain ⟨b,rfl,rfl⟩:=DataW.trod_bool hu h;rw[hu];exact ⟨b,rfl⟩
   . rename_i k hu;obtain ⟨n,rfl,rfl,hw⟩:=DataW.trod_int hu h;rw[hu];exact ⟨n,rfl,hw⟩
   . rename_i hu;obtain ⟨s,rfl,rfl,_⟩:=DataW.trod_string hu h;rw[hu];exact ⟨_,rfl⟩
   . rename_i e hu;simp only[Ao,Aq] at ht;obtain ⟨hk,hpe⟩:=ht;rw[hu];rcases DataW.trod_slice hu h with ⟨rfl,rfl⟩ | ⟨a,len,cap,elems,rest,n,rfl,rfl,rfl,hb,hl,hc,hel,Cs,_,_⟩
     . exact ⟨[],rfl,by simp⟩
     . refine ⟨elems.map λ x=>E7 x.1,by simp only[E7,Wh],λ y hy=>?_⟩;obtain ⟨z,hz,rfl⟩:=AP.1 hy;obtain ⟨i,hi,rfl⟩:=AA.1 hz;have:=Cs i (by omega);rw[Ax hi] at this;obtain ⟨cs',h1,h2⟩:=Option.bind_eq_some_iff.1 this;exact ih e hpe _ _ _ h2
   . rename_i fs hu;simp only[Ao,Aq] at ht;rw[hu];obtain ⟨xs,n,rfl,rfl,hl,Zm,Cs⟩:=DataW.trod_struct hu h;simp only[E7];refine Yn fs.toList xs (by simpa using Zm) λ i f x hf hx=>?_;have h1:=Cs i f (by simpa using hf);rw[hx] at h1;exact ih f.type (AB.1 ht.2 f (AU hf)) _ _ _ h1
   . rename_i k e hu;simp only[Ao,Aq] at ht;rw[hu];obtain ⟨xs,n,rfl,rfl,hl,Zm,Cs⟩:=DataW.trod_array hu h;refine ⟨xs.map λ x=>E7 x.1,by simp only[E7,T3],by simpa using Zm,λ y hy=>?_⟩;obtain ⟨z,hz,rfl⟩:=AP.1 hy;obtain ⟨i,hi,rfl⟩:=AA.1 hz;have h1:=Cs i (by omega);rw[Ax hi] at h1;exact ih e ht.2 _ _ _ h1
   . cases ht
theorem Ath{W:World}{t:TypeId}{v:Value}{d:DataW H}{ps:List MemPlace}{sp:Nat->Bool}(ht:UT P t=true)(h:DataW.Trod enc P W 0 sp held t v d ps):wtP P 30 t (E7 d):=by
 unfold UT at ht;simp only[Ao] at ht;obtain ⟨fuel,hf⟩:=h;exact Ap9 30 t ht.1 _ _ _ hf
theorem Abr{W:World}{sp:Nat->Bool}:∀{ts:List TypeId} {vs:List Value} {ds:List (DataW H)} {ps:List MemPlace},(ts.all (UT P))=true->DataW.TrodAll enc P W 0 sp held ts vs ds ps->
   ds.length=ts.length/\∀(i:Nat) t d,ts[i]?=some t->ds[i]?=some d->wtP P 30 t (E7 d)
 | [],vs,ds,ps,_,h=>by
   obtain ⟨rfl,rfl,_⟩:=trodAll_nil h;exact ⟨rfl,λ i t d h=>by simp at h⟩
 | t::ts,vs,ds,ps,ht,h=>by
   obtain ⟨v,vs',d,ds',p,q,rfl,rfl,_,h1,h2⟩:=trodAll_cons h;simp only[List.all_cons,Ao] at ht;obtain ⟨h3,h4⟩:=Abr ht.2 h2;refine ⟨by simp[h3],λ i t' d' hi hd=>?_⟩;cases i with
   | zero=>simp only[AK,Al] at hi hd;subst hi hd;exact Ath ht.1 h1
   | succ i=>simp only[List.getElem?_cons_succ] at hi hd;exact h4 i t' d' hi hd
end
section
variable {P:Program} {n:Nat} {t:TypeId} {cs:List Pd}
theorem At7{k:IntKind}(hu:P.underlying t=some (.int k))(h:wtP P n t cs):∃v,cs=[.int k v]/\(Lit.int k v).wf=true:=by
 cases n with
 | zero=>exact h.elim
 | succ n=>simpa only[wtP,hu] using h
theorem Awj{e:TypeId}(hu:P.underlying t=some (.slice e))(h:wtP P n t cs):∃m es,cs=[.sl es]/\∀y∈es,wtP P m e y:=by
 cases n with
 | zero=>exact h.elim
 | succ n=>
   simp only[wtP,hu] at h;exact ⟨n,h⟩
theorem Acx{α:Type}(enc:α->List Pd):∀(es:List (List Pd)),(∀y∈es,∃x,y=enc x)->∃l:List α,es=l.map enc
 | [],_=>⟨[],rfl⟩
 | y::r,h=>by
   obtain ⟨x,hx⟩:=h y (by simp);obtain ⟨l,hl⟩:=Acx enc r λ z hz=>h z (by simp[hz]);exact ⟨x::l,by simp[hx,hl]⟩
end
end Go.Am
namespace Go.Am
open Go
section
variable {P:Program} {ops rest:List Oper} {k:Kt} {st:St} {o:Oper}
theorem IF(h:N4 P o (O P true ops rest k) st):Af P true ops rest k o st .fail:=⟨rfl,h⟩
theorem Azh{st1:St}(hw:Wk st st1)(h:Do P true ops rest k o st1):Af P true ops rest k o st .fail:=by
 refine IF λ c a w F M Q hr=>?_;obtain ⟨F1,M1,GG⟩:=hw c a w F M hr;exact Qo GG h Q
theorem Rel.Bap{c:Ctx}{a:Act}{w w':World}{F:Nat->Prop}{M:Nat->Mb}(hr:Rel c st a w F M)(hos:w'.os=w.os)(Mn:w'.tape=w.tape)(Ow:w'.output=w.output)
   (Em:w'.heap.size=w.heap.size+1) (hold:∀b,b<w.heap.size->w'.heap[b]?=w.heap[b]?):Rel c st a w' (λ b=>F b∨b=w.heap.size) M:=by
 have hF:∀b,F b->w'.heap[b]?=w.heap[b]?:=λ b hb=>hold b (hr.keep.Fl b hb);have hs:=CN.refl M (sg st.hp);refine ⟨λ t d ht=>(hr.env t d ht).keep hF (λ _ h=> .inl h) hs,hr.size,hr.defers,⟨λ id x hx=>?_,hr.heap.inj⟩,?_⟩
 . refine (hr.heap.obj id x hx).keep hF (λ _ h=> .inl h) hs λ b CI=>?_;have Ct:=hr.heap.lt ⟨id,x,hx,CI⟩;refine ⟨hold _ Ct,?_⟩;rintro (h | h)
   . exact hr.heap.Jj ⟨id,x,hx,CI⟩ h
   . omega
 . have hk:=hr.keep;refine ⟨hos.trans hk.os,Mn.trans hk.tape,Ow.trans hk.output,by have:=hk.size;omega,λ b hb hO=>?_,λ b hb=> .inl (hk.F0 b hb),λ b hb=>?_,λ b hb=>?_,hk.own,hk.VB,hk.s0b⟩
   . rw[hold b (Nat.lt_of_lt_of_le hb hk.size)];exact hk.LR b hb hO
   . rcases hb with hb | rfl
     . exact hk.Fn b hb
     . exact .inr (.inr hk.size)
   . rcases hb with hb | rfl
     . have:=hk.Fl b hb;omega
     . omega
theorem o7{s d e:TypeId}{x:Operand}{z0 z1 z2:D}{n0 n1 n2 n3 b2:Nat}{l:List UInt8}(ho:o.op= .convert s d x)(hs:CC P s=some ⟨n0,n1,.string,z0⟩)(hd:CC P d=some ⟨n2,n3,.slice e,z1⟩)(he:CC P e=some ⟨1,b2,.int .u8,z2⟩)
   (hx:ev st x= .p (.str l)) (h:O P true ops rest k (st.put o.dst (.p (.sl (D3 l))))):Af P true ops rest k o st .fail:=by
 refine IF λ c a w F M Q hr=>?_;obtain ⟨_,u1,_,_,Fq,_,e1⟩:=Cd hs;obtain ⟨_,u2,_,_,LM,_,e2⟩:=Cd hd;obtain ⟨_,u3,_,_,hu3,_,e3⟩:=Cd he;simp only[TI.mk.injEq] at e1 e2 e3;obtain rfl:=TK.of_string e1.2.2.1.symm;obtain rfl:=TK.of_slice e2.2.2.1.symm;obtain rfl:=TK.of_int e3.2.2.1.symm;have hv:=Ci hr x;rw[hx] at hv;generalize Nd:a.eval x=v at hv;cases hv with | p hv=>cases hv with | str=>
 have Dq:=Lib.run_convert_string_bytes (P:=P) w s d e ⟨l.toArray⟩ Fq LM hu3;have Kd:Rel c st a (Lib.bytesWorld w e ⟨l.toArray⟩) (λ b=>F b∨b=w.heap.size) M:=hr.Bap rfl rfl rfl (Lib.bytesWorld_size _ _ _) (λ b hb=>Lib.bytesWorld_at_old _ _ _ b hb);unfold Oper.wp;have hex:(execOp a.eval o).run P w= .ok (.value (.slice (some ⟨w.heap.size,0,none⟩) (⟨l.toArray⟩:ByteArray).size (grownCap w (⟨l.toArray⟩:ByteArray).size 0 e))) (Lib.bytesWorld w e ⟨l.toArray⟩):=by
   simp only[execOp,ho,Nd];simp[Dq]
 rw[hex];refine ⟨_,_,_,h,Kd.put ?_ o.dst⟩;have hlen:(⟨l.toArray⟩:ByteArray).size=(D3 l).length:=by simp[D3,Ig]
 rw[hlen];refine .p (.sl (D3 l) w.heap.size 0 _ 1 _ e _ (.inr rfl) (Lib.bytesWorld_at_new _ _ _) (by have:=grownCap_ge w (D3 l).length 0 e;exact this) (λ i y hy=>?_) (λ i y j q hy hq=>?_) (λ i y j q hy hq=>?_))
 . simp only[D3,AQ] at hy;cases hb:l[i]? with
   | none=>rw[hb] at hy;cases hy
   | some b=>rw[hb] at hy;cases hy;rfl
 . simp only[D3,AQ] at hy;cases hb:l[i]? with
   | none=>rw[hb] at hy;cases hy
   | some b=>
     rw[hb] at hy;cases hy;have Ct:=(An.1 hb).1;cases j with
     | succ j=>simp at hq
     | zero=>simp[Lib.bytesCells];omega
 . simp only[D3,AQ] at hy;cases hb:l[i]? with
   | none=>rw[hb] at hy;cases hy
   | some b=>
     rw[hb] at hy;cases hy;have Ct:=(An.1 hb).1;cases j with
     | succ j=>simp at hq
     | zero=>
       simp only[AK,Al] at hq;subst hq;have:(Lib.bytesCells w e ⟨l.toArray⟩).getD (0+i*1+0) undef= .int .u8 b.toNat:=by
         rw[As];simp[Lib.bytesCells,Array.getElem?_append,Ct];have:=(An.1 hb).2;rw[this]
       rw[this];exact .int _ _
theorem Aow{t:TypeId}{x:Operand}{q:Nat}{n0 n1:Nat}{z0:D}{l:List UInt8}(ho:o.op= .range t x)(hq:o.dst=some q)(ht:CC P t=some ⟨n0,n1,.string,z0⟩)(hx:ev st x= .p (.str l))(hn:get st.hp q=none)
   (h:O P true ops rest k (({st with hp:=(q,.iter l 0)::st.hp}:St).put (some q) (.ptr q 0))):Af P true ops rest k o st .fail:=by
 refine IF λ c a w F M Q hr=>?_;obtain ⟨_,u1,_,_,Fq,_,e1⟩:=Cd ht;simp only[TI.mk.injEq] at e1;obtain rfl:=TK.of_string e1.2.2.1.symm;have hv:=Ci hr x;rw[hx] at hv;generalize Nd:a.eval x=v at hv;cases hv with | p hv=>cases hv with | str=>
 have Cs:=JQ st.hp q (.iter l 0);have hM:∀j,j≠q->Fh M q ⟨w.heap.size,0,[]⟩ j=M j:=λ j hj=>by simp[Fh,hj]
 have IB:Fh M q ⟨w.heap.size,0,[]⟩ q=⟨w.heap.size,0,[]⟩:=by simp[Fh]
 have G5:=FV Cs hM hn;have hold:∀b,b<w.heap.size->(w.iter ⟨l.toArray⟩ 0).heap[b]?=w.heap[b]?:=λ b hb=>alloc_old w _ b hb;have Kd:Rel c {st with hp:=(q,.iter l 0)::st.hp} a (w.iter ⟨l.toArray⟩ 0) F (Fh M q ⟨w.heap.size,0,[]⟩):=by
   refine hr.change Cs hM G5 rfl rfl rfl (by simp[World.iter]) (λ b hb _=>hold b hb) ?_ (λ b hb=> .inr (by have:b=_:=hb;rw[this,IB];exact Ai _));rw[IB];exact ⟨λ hF=>Nat.lt_irrefl _ (hr.keep.Fl _ hF),World.iter_heap _ _ _⟩
 unfold Oper.wp;have hex:(execOp a.eval o).run P w= .ok (.value (.pointer (some ⟨w.heap.size,0,none⟩))) (w.iter ⟨l.toArray⟩ 0):=by
   simp only[execOp,ho,Nd];simp[run_range_string w t ⟨l.toArray⟩ Fq]
 rw[hex];rw[<-hq] at h;refine ⟨_,_,_,h,Kd.put ?_ o.dst⟩;have:=DR.ptr (F:=F) (w:=w.iter ⟨l.toArray⟩ 0) (M:=Fh M q ⟨w.heap.size,0,[]⟩) (s:=sg ((q,.iter l 0)::st.hp)) q 0 (by rw[C5 Cs];simp[AO.sg]);rwa[IB] at this
theorem Asa{it:Operand}{id:Nat}{l:List UInt8}{pos:Nat}(ho:o.op= .next it true)(hx:ev st it= .ptr id 0)(hg:get st.hp id=some (.iter l pos))(ha:∀b∈l,b.toNat<128)
   (h1:∀(Ct:pos<l.length),O P true ops rest k (({st with hp:=Cw st.hp id (.iter l (pos+1))}:St).put o.dst (.Dg [.p (.bool true),.p (.int .i64 pos),.p (.int .i32 (l[pos]).toNat)])))
   (h2:¬pos<l.length->O P true ops rest k (st.put o.dst (.Dg [.p (.bool false)]))):Af P true ops rest k o st .fail:=by
 refine IF λ c a w F M Q hr=>?_;have hv:=Ci hr it;rw[hx] at hv;generalize Nd:a.eval it=v at hv;cases hv with
 | ptr _ _ hs=>
   obtain ⟨LC,Rb⟩:=hr.heap.obj id _ hg;unfold Oper.wp;by_cases Ct:pos<l.length
   . have Axx:pos<(⟨l.toArray⟩:ByteArray).size:=by rw[Ig];exact Ct
     have hb:((⟨l.toArray⟩:ByteArray)[pos]'Axx)=l[pos]:=by simp[ByteArray.getElem_eq_getElem_data]
     have Dq:=Go.Lib.run_next_ascii_at (P:=P) w (M id).Dt ⟨l.toArray⟩ pos o.type Rb Axx (by rw[hb];exact ha _ (AS Ct));have hex:(execOp a.eval o).run P w= .ok (.value (.tuple #[.bool true,.int .i64 pos,.int .i32 (l[pos]).toNat])) (w.iterAt (M id).Dt ⟨l.toArray⟩ (pos+1)):=by
       simp only[execOp,ho,Nd];simp[Dq,hb]
     rw[hex];have Sn:(M id).Dt<w.heap.size:=(Ba.1 Rb).1;have Cs:∀j,get (Cw st.hp id (.iter l (pos+1))) j=if j=id then some (.iter l (pos+1)) else get st.hp j:=CM _ _ _
     have Hs:=Dw Cs hg rfl;have Kd:Rel c {st with hp:=Cw st.hp id (.iter l (pos+1))} a (w.iterAt (M id).Dt ⟨l.toArray⟩ (pos+1)) F M:=by
       refine hr.change (M':=M) Cs (λ _ _=>rfl) (by rw[Hs];exact CN.refl _ _) rfl rfl rfl (by simp[World.iterAt]) (λ b hb Dl=>?_) ⟨LC,Go.Lib.iterAt_heap w _ _ _ _ Rb⟩ (λ b hb=> .inl ⟨_,hg,hb⟩);have:b≠(M id).Dt:=Dl _ hg;simp[World.iterAt,Array.getElem?_setIfInBounds,Bm this]
     refine ⟨_,_,_,h1 Ct,Kd.put ?_ o.dst⟩;refine .Dg _ _ rfl λ i d hd=>?_
     match i,hd with
     | 0,hd=>simp only[AK,Al] at hd;subst hd;exact .p (.bool true)
     | 1,hd=>simp only[List.getElem?_cons_succ,AK,Al] at hd;subst hd;exact .p (.int _ _)
     | 2,hd=>simp only[List.getElem?_cons_succ,AK,Al] at hd;subst hd;exact .p (.int _ _)
     | i+3,hd=>simp at hd
   . have Dq:=Go.Lib.run_next_end_at (P:=P) w (M id).Dt ⟨l.toArray⟩ pos o.type Rb (by rw[Ig];exact Ct);have hex:(execOp a.eval o).run P w= .ok (.value (.tuple #[.bool false])) w:=by
       simp only[execOp,ho,Nd];simp[Dq]
     rw[hex];refine ⟨_,_,_,h2 Ct,hr.put ?_ o.dst⟩;refine .Dg _ _ rfl λ i d hd=>?_
     match i,hd with
     | 0,hd=>simp only[AK,Al] at hd;subst hd;exact .p (.bool false)
     | i+1,hd=>simp at hd
end
end Go.Am
namespace Go.Am
open Go
theorem Wk.seal{st:St}{t id:Nat}{ty:TypeId}{xs:List Pd}{env1:List (Nat×D)}{hp1:Hp}(ht:get st.env t=some (.ptr id 0))(ho:get st.hp id=some (.box (xs.map .p) ty))(h1:get hp1 id=none)(hl:Le st ⟨env1,hp1,st.n⟩):
   Wk st ⟨(t,.pe xs)::env1,hp1,st.n⟩:=by
 intro c a w F M hr;have GG:=hr.forget hl;obtain ⟨LC,row,_,CS,Em,CP⟩:=hr.heap.obj id _ ho;have CI:EF M st.hp (M id).Dt:=⟨id,_,ho,rfl⟩;have hLH:C8 st.hp hp1:=hl.2.2.1;have hs:=CN.refl M (sg hp1);refine ⟨λ b=>F b∨b=(M id).Dt,M,⟨λ q d hq=>?_,GG.size,GG.defers,⟨λ j o hj=>?_,GG.heap.inj⟩,?_⟩⟩
 . rw[Cp] at hq;split at hq
   . rename_i e;subst e;cases hq;have hv:=hr.env _ _ ht;generalize a.tmps.getD t undef=v at hv;cases hv with
     | ptr _ _ _=>
       refine .pe xs (M id).Dt 0 row _ (0,0) (.inr rfl) CS (λ j x hx=>?_) (λ j x hx=>?_)
       . have:=(An.1 hx).1;simp at Em;omega
       . have:=(CP.1 j (.p x) (by simp[hx])).1;rw[A2];cases this with | p hp=>exact hp.keep (λ _ _=>rfl) (λ _ h=> .inl h)
   . exact (GG.env q d hq).keep (λ _ _=>rfl) (λ _ h=> .inl h) hs
 . refine (GG.heap.obj j o hj).keep (λ _ _=>rfl) (λ _ h=> .inl h) hs λ b UJ=>⟨rfl,?_⟩;rintro (h | h)
   . exact GG.heap.Jj ⟨j,o,hj,UJ⟩ h
   . have:=hr.heap.inj j o id _ b (hLH.spec j o hj) ho UJ h;subst this;simp only at hj;rw[h1] at hj;cases hj
 . have hk:=GG.keep;refine ⟨hk.os,hk.tape,hk.output,hk.size,hk.LR,λ b hb=> .inl (hk.F0 b hb),λ b hb=>?_,λ b hb=>?_,hk.own,hk.VB,hk.s0b⟩
   . rcases hb with hb | rfl
     . exact hk.Fn b hb
     . exact .inr (hr.keep.own _ CI)
   . rcases hb with hb | rfl
     . exact hk.Fl b hb
     . exact (Ba.1 CS).1
section
variable {P:Program} {ops rest:List Oper} {k:Kt} {st:St} {o:Oper}
theorem o6{t e:TypeId}{x lo:Operand}{z0:D}{n0 n1 n:Nat}{ti:TI}{xs:List Pd}{kd:IntKind}{L:Nat}(ho:o.op= .slice t x (some lo) none none)(ht:CC P t=some ⟨n0,n1,.array n e,z0⟩)(he:CC P e=some ti)
   (hx:ev st x= .pe xs) (r5:ev st lo= .p (.int kd (L:Nat))) (hL:L<n) (HE:xs.length=n*ti.size) (Em:0<ti.size)
   (h:O P true ops rest k (st.put o.dst (.p (.sl ((chunk ti.size n xs).drop L))))):Af P true ops rest k o st .fail:=by
 refine IF λ c a w F M Q hr=>?_;obtain ⟨_,u1,_,_,Fq,_,e1⟩:=Cd ht;simp only[TI.mk.injEq] at e1;obtain rfl:=TK.of_array e1.2.2.1.symm;obtain ⟨i2,u2,z2,EP,LM,_,rfl⟩:=Cd he;simp only at HE Em h;have hv:=Ci hr x;rw[hx] at hv;generalize Nd:a.eval x=v at hv;have Q0:=Ci hr lo;rw[r5] at Q0;generalize Bb7:a.eval lo=vl at Q0;cases Q0 with | p Q0=>cases Q0 with | int=>
 cases hv with
 | pe _ b off row ty fr hF hh hi hp=>
   unfold Oper.wp;have hex:(execOp a.eval o).run P w= .ok (.value (.slice (some ⟨b,off+L*i2.size,none⟩) (n - L) (n - L))) w:=by
     have Dl:¬n=L:=by omega
     simp only[execOp,ho,Nd,Bb7,Bn,Option.map_none];simp[Instr.sliceAt,Instr.sureAddr,Instr.sliceBounds,Instr.sliceBound,asIntOf,run_underlying Fq,Dh EP,Dl,Addr.add_lit];omega
   rw[hex];refine ⟨_,_,_,h,hr.put ?_ o.dst⟩;have hlen:((chunk i2.size n xs).drop L).length=n - L:=by rw[List.length_drop,IV]
   have Cs:∀(i:Nat) y,((chunk i2.size n xs).drop L)[i]?=some y->L+i<n/\y=(xs.drop ((L+i)*i2.size)).take i2.size:=by
     intro i y hy;rw[AV,Nr] at hy;split at hy
     . rename_i Ct;cases hy;exact ⟨Ct,rfl⟩
     . cases hy
   have N0:∀(i:Nat) y (j:Nat) q,((chunk i2.size n xs).drop L)[i]?=some y->y[j]?=some q->xs[(L+i)*i2.size+j]?=some q:=by
     intro i y j q hy hq;obtain ⟨_,rfl⟩:=Cs i y hy;rw[AH] at hq;split at hq
     . rw[AV] at hq;exact hq
     . cases hq
   have Aqw:∀i j,off+L*i2.size+i*i2.size+j=off+((L+i)*i2.size+j):=λ i j=>by rw[Bf];omega
   rw[<-hlen];refine .p (.sl _ b (off+L*i2.size) _ i2.size row ty fr hF hh (Ai _) (λ i y hy=>?_) (λ i y j q hy hq=>?_) (λ i y j q hy hq=>?_))
   . obtain ⟨Ct,rfl⟩:=Cs i y hy;rw[Bi,List.length_drop,HE];have:(L+i+1)*i2.size<=n*i2.size:=Bu _ Ct;rw[Bf] at this;omega
   . rw[Aqw];exact hi _ _ (N0 i y j q hy hq)
   . rw[Aqw];exact hp _ _ (N0 i y j q hy hq)
end
end Go.Am
namespace Go.Am
open Go
theorem Wk.Hl{st:St}{id j q sz:Nat}{cs:List D}{ty:TypeId}(e:TypeId)(hb:get st.hp id=some (.box cs ty))(hj:cs[j]?=some (.cl []))(hq:get st.hp q=none)(hs:0<sz):
   Wk st ⟨st.env,(q,.arr e sz [])::Cw st.hp id (.box (cs.set j (.ref q 0 0 0)) ty),st.n⟩:=by
 intro c a w F M hr;obtain ⟨GG,h1⟩:=hr.To (e:=e) hq hs;have Dl:id≠q:=λ h=>by subst h;rw[hq] at hb;cases hb
 have Sq:get ((q,AO.arr e sz [])::st.hp) id=some (.box cs ty):=by rw[Cp,if_neg (Bm Dl)];exact hb
 have Cs:∀i,get ((q,AO.arr e sz [])::Cw st.hp id (.box (cs.set j (.ref q 0 0 0)) ty)) i=if i=id then some (.box (cs.set j (.ref q 0 0 0)) ty) else get ((q,AO.arr e sz [])::st.hp) i:=by
   intro i;simp only[Cp,CM];by_cases e1:i=id
   . subst e1;simp[Bm Dl]
   . by_cases e2:q=i
     . subst e2;simp[e1]
     . simp[e1,e2]
 have Hs:=Dw Cs Sq rfl;have Akv:=GG.heap.obj id _ Sq;obtain ⟨LC,row,t,CS,Em,CP⟩:=Akv;refine ⟨F,Fh M q ⟨0,0,[]⟩,?_⟩;refine GG.change (st:=⟨st.env,(q,AO.arr e sz [])::st.hp,st.n⟩) Cs (λ _ _=>rfl) (by rw[Hs];exact CN.refl _ _) rfl rfl rfl (Ai _) (λ _ _ _=>rfl) ?_ (λ b hb=> .inl ⟨_,Sq,hb⟩);refine ⟨LC,row,t,CS,by simpa using Em,λ i d hd=>?_,λ h5 h6 i hi=>?_⟩;rotate_left
 . refine CP.2 h5 ?_ i ?_
   . obtain ⟨x,hx,hn⟩:=A4.1 h6;rcases List.mem_or_eq_of_mem_set hx with h7 | rfl
     . exact A4.2 ⟨x,h7,hn⟩
     . cases hn
   . by_cases e1:i=j
     . subst e1;rw[BE (An.1 hj).1] at hi;cases hi
     . rwa[List.getElem?_set_ne (Bm e1)] at hi
 rw[Hs];by_cases e1:i=j
 . subst e1;have Ct:=(An.1 hj).1;rw[BE Ct] at hd;cases hd;have h2:=CP.1 i _ hj;refine ⟨?_,h2.2⟩;have h3:=h2.1;generalize row.getD i undef=v at h3;cases h3 with | cl _ ad _ _=>exact h1 ad
 . rw[List.getElem?_set_ne (Bm e1)] at hd;exact CP.1 i d hd
theorem Wk.pure{st:St}{t id sz:Nat}{e:TypeId}{es:List (List Pd)}(ht:get st.env t=some (.ref id 0 es.length es.length))(ho:get st.hp id=some (.arr e sz es)):
   Wk st ⟨(t,.p (.sl es))::st.env,Cw st.hp id (.LG sz es),st.n⟩:=by
 intro c a w F M hr;have hd:=hr.env _ _ ht;obtain ⟨x,h',F',⟨rfl,rfl⟩,Kd,hF,hs,hp⟩:=K1 hr hd (k:=λ x h'=>x= .sl es/\h'=Cw st.hp id (.LG sz es)) (by simp[Kl,ho,froze]);refine ⟨F',M,⟨λ j d hj=>?_,Kd.size,Kd.defers,Kd.heap,Kd.keep⟩⟩;rw[Cp] at hj;split at hj
 . rename_i e1;subst e1;cases hj;exact .p hp
 . exact Kd.env j d hj
attribute [go_sem] Su
theorem Adv(ρ:Nat->Option Nat)(xs:List Pd):HD ρ (xs.map D.p)=xs.map D.p:=by
 induction xs with
 | nil=>rfl
 | cons x r ih=>simp[HD,D.Ef,ih]
theorem Ak1(xs:List Pd):(xs.map D.p).all D.one=true:=by
 induction xs with
 | nil=>rfl
 | cons x r ih=>simp[D.one]
theorem CH{P:Program}{l:List Oper}{id:Nat}{p:List (Nat×Nat)}{k:Kt}{st:St}(hm:P.follows .mixedOrders=true)(hB:Ac3 l p=true)(hle:C8 st.hp st.hp)(h:G P l st.hp p k st):
   X P (.region id l.toArray true) k st:=Dm st.hp hm hB hle h
attribute [go_sem] Adv Ak1 List.length_map
end Go.Am
namespace Go.Am
open Go
def jmp(P:Program)(c:Code)(Q:Exit->Act->World->Prop):Nat->Exit->Act->World->Prop
 | 0,.goto _,_,_=>False
 | n+1,.goto l,a,w=>∃rest,findLabel c l=some rest/\rest.wp P (jmp P c Q n) a w
 | _,.normal,a,w=>Q .normal a w
 | _,.exit id,a,w=>Q (.exit id) a w
 | _,.ret,a,w=>Q .ret a w
 | _,.panic ch,a,w=>Q (.panic ch) a w
 | _,.outgrown,a,w=>Q .outgrown a w
theorem WR{P:Program}{a:Act}{w:World}{Q:Exit->Act->World->Prop}{c:Code}(n:Nat)(first:c.wp P (jmp P c Q n) a w):(Code.scope c).wp P Q a w:=by
 intro b k cs;have key:∀n (c1:Code) a w,c1.wp P (jmp P c Q n) a w->∃e a' w',Q e a' w'/\Arrives P (lone (b.at a (.code c1:: .inScope c::k)) cs w) b k cs e a' w':=by
   intro n
   induction n with
   | zero=>
     intro c1 a w h;obtain ⟨e,a₁,w₁,hq,PJ⟩:=h b (.inScope c::k) cs;cases e with
     | normal=>exact ⟨.normal,a₁,w₁,hq,Steps.trans PJ (.one step_inScope)⟩
     | exit id=>exact ⟨.exit id,a₁,w₁,hq,λ k' hk=>PJ k' (by simp[exitTo,hk])⟩
     | goto l'=>exact hq.elim
     | ret=>exact ⟨_,a₁,w₁,hq,PJ⟩
     | panic ch=>exact ⟨_,a₁,w₁,hq,PJ⟩
     | outgrown=>exact ⟨_,a₁,w₁,hq,PJ⟩
   | succ n ih=>
     intro c1 a w h;obtain ⟨e,a₁,w₁,hq,PJ⟩:=h b (.inScope c::k) cs;cases e with
     | normal=>exact ⟨.normal,a₁,w₁,hq,Steps.trans PJ (.one step_inScope)⟩
     | exit id=>exact ⟨.exit id,a₁,w₁,hq,λ k' hk=>PJ k' (by simp[exitTo,hk])⟩
     | goto l'=>
       obtain ⟨rest,hf,hx⟩:=hq;have hg:gotoIn l' (.inScope c::k)=some (.code rest:: .inScope c::k):=by simp[gotoIn,hf]
       obtain ⟨e₂,a₂,w₂,hq₂,Ayd⟩:=ih rest a₁ w₁ hx;exact ⟨e₂,a₂,w₂,hq₂,.of_steps (PJ _ hg) Ayd⟩
     | ret=>exact ⟨_,a₁,w₁,hq,PJ⟩
     | panic ch=>exact ⟨_,a₁,w₁,hq,PJ⟩
     | outgrown=>exact ⟨_,a₁,w₁,hq,PJ⟩
 obtain ⟨e,a',w',hq,PJ⟩:=key n c a w first
 exact ⟨e,a',w',hq,.of_steps (.one step_scope) PJ⟩
def scQ(P:Program)(x:Code)(k:Kt):Nat->Exit->St->Prop
 | 0,.goto _,_=>False
 | n+1,.goto l,st=>∃st1 rest,Wk st st1/\findLabel x l=some rest/\wA P rest (scQ P x k n) st1
 | _,.normal,st=>J P k .normal st
 | _,.exit id,st=>J P k (.exit id) st
 | _,.ret,st=>J P k .ret st
 | _,.panic ch,st=>J P k (.panic ch) st
 | _,.outgrown,st=>J P k .outgrown st
def Jm(P:Program)(x:Code)(k:Kt)(n l:Nat)(st:St):Prop:=scQ P x k n (.goto l) st
section
variable {P:Program} {st:St} {x:Code} {k:Kt}
theorem Abx{c:Ctx}:∀(n:Nat) (e:Exit) (a:Act) (w:World),QC c (scQ P x k n) e a w->jmp P x (QC c (k.Fi P)) n e a w
 | 0,.goto _,_,_,⟨_,_,_,h,_⟩=>h.elim
 | n+1,.goto l,a,w,⟨st,F,M,⟨st1,rest,hw,hf,hx⟩,hr⟩=>by
   obtain ⟨F1,M1,GG⟩:=hw c a w F M hr;exact ⟨rest,hf,Code.wp_mono (Abx n) (Hh rest GG hx)⟩
 | 0,.normal,_,_,h=>h
 | 0,.exit _,_,_,h=>h
 | 0,.ret,_,_,h=>h
 | 0,.panic _,_,_,h=>h
 | 0,.outgrown,_,_,h=>h
 | _+1,.normal,_,_,h=>h
 | _+1,.exit _,_,_,h=>h
 | _+1,.ret,_,_,h=>h
 | _+1,.panic _,_,_,h=>h
 | _+1,.outgrown,_,_,h=>h
theorem Ad0(n:Nat)(h:X P x (.user (scQ P x k n)) st):X P (.scope x) k st:=
 λ c a w F M hr=>WR n (Code.wp_mono (Abx n) (Hh x hr h))
theorem Ai5(n l:Nat):J P (.user (scQ P x k n)) (.goto l) st=Jm P x k n l st:=nd rfl
theorem n9(n:Nat):J P (.user (scQ P x k n)) .normal st=J P k .normal st:=by cases n<;>rfl
theorem Aon(n:Nat):J P (.user (scQ P x k n)) .ret st=J P k .ret st:=by cases n<;>rfl
theorem Se{β:Type}(Yd:β->Nat)(S:β->St)(I:β->Prop)(μ:β->Nat)(N:Nat)
   (h0:∀n,(∀b' st',I b'->μ b'<N->Wk st' (S b')->Jm P x k n (Yd b') st')->X P x (.user (scQ P x k n)) st)
   (hs:∀b n,I b->(∀b' st',I b'->μ b'<μ b->Wk st' (S b')->Jm P x k n (Yd b') st')->∃rest,findLabel x (Yd b)=some rest/\X P rest (.user (scQ P x k n)) (S b)):X P (.scope x) k st:=by
 have key:∀n b st',I b->μ b<n->Wk st' (S b)->Jm P x k n (Yd b) st':=by
   intro n
   induction n with
   | zero=>intro b _ _ h;exact (AZ _ h).elim
   | succ n ih=>
     intro b st' hb hm hw;obtain ⟨rest,hf,hx⟩:=hs b n hb λ b' Bai Rc Ct H0=>ih b' Bai Rc (by omega) H0;exact ⟨S b,rest,hw,hf,hx⟩
 exact Ad0 N (h0 N λ b' st' Rc Ct hw=>key N b' st' Rc Ct hw)
end
attribute [go_sem] Ai5 n9 Aon
end Go.Am
namespace Go.Am
open Go
section
variable {P:Program} {ops rest:List Oper} {k:Kt} {st:St} {o:Oper}
theorem Aw9{s d e:TypeId}{x:Operand}{z0 z1 z2:D}{n0 n1 n2 n3 b2:Nat}{l:List UInt8}{id:Nat}{t:TypeId}(ho:o.op= .convert s d x)(hs:CC P s=some ⟨n0,n1,.slice e,z0⟩)(hd:CC P d=some ⟨n2,n3,.string,z1⟩)(he:CC P e=some ⟨1,b2,.int .u8,z2⟩)
   (hx:ev st x= .ref id 0 l.length l.length) (hg:get st.hp id=some (.arr t 1 (D3 l))) (h:O P true ops rest k (st.put o.dst (.p (.str l)))):Af P true ops rest k o st .fail:=by
 refine IF λ c a w F M Q hr=>?_;obtain ⟨_,u1,_,_,Fq,_,e1⟩:=Cd hs;obtain ⟨_,u2,_,_,LM,_,e2⟩:=Cd hd;obtain ⟨_,u3,_,_,hu3,_,e3⟩:=Cd he;simp only[TI.mk.injEq] at e1 e2 e3;obtain rfl:=TK.of_slice e1.2.2.1.symm;obtain rfl:=TK.of_string e2.2.2.1.symm;obtain rfl:=TK.of_int e3.2.2.1.symm;have hv:=Ci hr x;rw[hx] at hv;generalize Nd:a.eval x=v at hv;have hlen:(D3 l).length=l.length:=by simp[D3]
 have Dq:(convert s d v).run P w= .ok (.string ⟨l.toArray⟩) w:=by
   cases hv with
   | ref _ _ _ _ sz n _ Hs hN RX RY=>
     have hsn:sg st.hp id=some (.arr 1 l.length):=by simp[sg,hg,AO.sg,hlen]
     rw[hsn] at Hs;simp only[Al,Sg.arr.injEq] at Hs;obtain ⟨rfl,rfl⟩:=Hs;obtain ⟨ad,cap,rfl,h1,h2,h3,h4⟩:=RY rfl;obtain ⟨h5,h6,h7,h8,h9⟩:=hr.heap.obj id _ hg;by_cases hc:cap=0
     . have hl0:l=[]:=A1 (by omega);subst hl0;cases ad with
       | none=>
         rw[run_convert_bytes_string w s d e none _ cap Fq hu3 LM];simp[Conv.bytesToString];rfl
       | some ad=>exact run_convert_bytes_back w s d e ad cap [] Fq hu3 LM (λ j hj=>by simp at hj)
     . obtain rfl:=h4.resolve_left hc;obtain ⟨_,row,⟨fr,CS,_⟩,Em,CP⟩:=h9 (by omega);refine run_convert_bytes_back w s d e _ cap l Fq hu3 LM λ j hj=>?_;have hp:=CP j [.int .u8 (l[j]).toNat] 0 (.int .u8 (l[j]).toNat) (by simp[D3,hj]) rfl;have Ct:j<row.size:=by omega
       have N0:w.cell? ((⟨(M id).Dt,0*1,none⟩:Addr).add j)=row[j]?:=by
         rw[Addr.add_lit];simp[World.cell?,CS]
       rw[N0];simp only[Nat.mul_one,Bj] at hp;rw[As,A7 Ct] at hp;rw[A7 Ct];simp only[AY] at hp;generalize row[j]=y at hp;cases hp;rfl
 unfold Oper.wp;have hex:(execOp a.eval o).run P w= .ok (.value (.string ⟨l.toArray⟩)) w:=by
   simp only[execOp,ho,Nd];simp[Dq]
 rw[hex];exact ⟨_,_,_,h,hr.put (.p (.str l)) o.dst⟩
end
end Go.Am
namespace Go.Am
open Go
theorem Hz(h e:Hp)(j:Nat):get (h++e) j=match get h j with | some o=>some o | none=>get e j:=by
 induction h with
 | nil=>rfl
 | cons x r ih=>
   obtain ⟨k,o⟩:=x;simp only[AT,Cp];split
   . rfl
   . exact ih
theorem BZ.Df{P:Program}{f:FuncId}{args:List D}{h:Hp}{R:Hp->D->Prop}{id g:Nat}{cs:List Pd}(hc:BZ P f args h R)(hid:base<=id)(hn:get h id=none)
   (Aux:((Da args++DT h).all λ i=>(get h i).isSome)=true) (hRn:∀h1 r,R h1 r->get h1 id=none):
   BZ P f args (h++[(id,.Df g cs)]) λ h' r=>∃h1,R h1 r/\h'=h1++[(id,.Df g cs)]:=by
 intro vs w F M LP OX Sj hd;have Cs:∀j o,get h j=some o->get (h++[(id,AO.Df g cs)]) j=some o:=λ j o ho=>by rw[Hz,ho]
 have hgl:get (h++[(id,AO.Df g cs)]) id=some (.Df g cs):=by rw[Hz,hn];simp[Cp]
 have NY:∀i,i∈Da args++DT h->∃o,get h i=some o:=λ i hi=>Bx.1 (AB.1 Aux i hi)
 let ρ:Nat->Option Nat:=λ i=>if (get h i).isSome then some i else none
 have hρ:∀i j,ρ i=some j->sg (h++[(id,AO.Df g cs)]) i≠none->M j=M i/\sg h j=sg (h++[(id,AO.Df g cs)]) i:=by
   intro i j hj _;simp only[ρ] at hj;split at hj
   . rename_i hs;simp only[Al] at hj;subst hj;obtain ⟨o,ho⟩:=Bx.1 hs;exact ⟨rfl,by simp[sg,ho,Cs _ _ ho]⟩
   . cases hj
 have Ay2:∀i,(∃o,get h i=some o)->ρ i=some i:=λ i ⟨o,ho⟩=>by simp[ρ,ho]
 have Al5:HR F w M h:=by
   constructor
   . intro i o ho;have:=(LP.obj i o (Cs i o ho)).Ef (M':=M) hρ;rwa[AO.Qz (λ j hj=>Ay2 j (NY j (List.mem_append_right _ (Q2 ho hj))))] at this
   . intro i o i' o' b ho Nf CI Eu;exact LP.inj i o i' o' b (Cs _ _ ho) (Cs _ _ Nf) CI Eu
 have V7:IW F w M (sg h) args vs.toList:=by
   refine ⟨hd.1,λ i d hi=>?_⟩;have:=(hd.2 i d hi).Ef (M':=M) hρ;rwa[Qz (λ j hj=>Ay2 j (NY j (BO _ ?_)))] at this;clear this;have ET:∀(l:List D) (i:Nat),l[i]?=some d->j∈Da l:=by
     intro l
     induction l with
     | nil=>intro i hi;simp at hi
     | cons x r ih=>
       intro i hi;simp only[Da,Av];cases i with
       | zero=>simp only[AK,Al] at hi;subst hi;exact .inl hj
       | succ i=>exact .inr (ih i (by simpa using hi))
   exact ET args i hi
 have Aks:∀b,EF M (h++[(id,AO.Df g cs)]) b↔EF M h b:=by
   intro b;constructor
   . rintro ⟨i,o,ho,CI⟩;rw[Hz] at ho;cases hg:get h i with
     | some o2=>rw[hg] at ho;cases ho;exact ⟨i,_,hg,CI⟩
     | none=>
       rw[hg] at ho;simp only[Cp] at ho;split at ho
       . cases ho;exact CI.elim
       . simp[get] at ho
   . rintro ⟨i,o,ho,CI⟩;exact ⟨i,o,Cs _ _ ho,CI⟩
 refine (hc vs w F M Al5 OX (λ i hi=>Sj i (by
   unfold sg at hi ⊢;cases hg:get h i with
   | none=>rw[hg] at hi;exact (hi rfl).elim
   | some o=>rw[Cs _ _ hg];simp)) V7).mono ?_
 rintro e w' ⟨v,h1,r,F',M',rfl,hR,Vd,Av1,hK⟩;have hn1:=hRn h1 r hR;have Akx:∀b,F b->w'.heap[b]?=w.heap[b]?:=λ b hb=>hK.LR b (OX b hb) (λ ho=>Al5.Jj ho hb)
 let M2:Nat->Mb:=λ i=>if i=id then M id else M' i
 have hM2:∀i,i≠id->M2 i=M' i:=λ i hi=>by simp[M2,hi]
 have Dl:∀i o,get h1 i=some o->i≠id:=λ i o ho e=>by subst e;rw[hn1] at ho;cases ho
 have Kx:∀j o,get h1 j=some o->get (h1++[(id,AO.Df g cs)]) j=some o:=λ j o ho=>by rw[Hz,ho]
 have Bbz:get (h1++[(id,AO.Df g cs)]) id=some (.Df g cs):=by rw[Hz,hn1];simp[Cp]
 have Ack:∀j o,get (h1++[(id,AO.Df g cs)]) j=some o->get h1 j=some o∨(j=id/\o= .Df g cs):=by
   intro j o ho;rw[Hz] at ho;cases hg:get h1 j with
   | some o2=>rw[hg] at ho;exact .inl ho
   | none=>
     rw[hg] at ho;simp only[Cp] at ho;split at ho
     . rename_i e;cases ho;exact .inr ⟨e.symm,rfl⟩
     . simp[get] at ho
 have Mo:∀i s,sg h1 i=some s->sg (h1++[(id,AO.Df g cs)]) i=some s/\M2 i=M' i:=by
   intro i s hs;unfold sg at hs ⊢;cases hg:get h1 i with
   | none=>rw[hg] at hs;cases hs
   | some o=>rw[hg] at hs;rw[Kx _ _ hg];exact ⟨hs,hM2 i (Dl i o hg)⟩
 have Axg:CN M' M2 (sg h1) (sg (h1++[(id,AO.Df g cs)])):=
   ⟨λ i hi=>⟨(Mo i _ hi).1,by rw[(Mo i _ hi).2]⟩,λ i sz n hi=>⟨n,(Mo i _ hi).1,Ai _,λ _=>(Mo i _ hi).2⟩,λ i sz n kk hi=>⟨n,kk,(Mo i _ hi).1,Ai _,Ai _,λ _=>by rw[(Mo i _ hi).2];exact ⟨rfl,rfl⟩,λ _=>by rw[(Mo i _ hi).2]⟩⟩
 refine ⟨v,h1++[(id,.Df g cs)],r,F',M2,rfl,⟨h1,hR,rfl⟩,⟨λ j o ho=>?_,λ i o i' o' b ho Nf CI Eu=>?_⟩,Av1.keep (λ _ _=>rfl) (λ _ h=>h) Axg,?_⟩
 . rcases Ack j o ho with h2 | ⟨rfl,rfl⟩
   . have h3:=Vd.obj j o h2;rw[hM2 j (Dl j o h2)];exact h3.keep (λ _ _=>rfl) (λ _ h=>h) Axg (λ b CI=>⟨rfl,Vd.Jj ⟨j,o,h2,CI⟩⟩)
   . obtain ⟨h4,row,t,fr,h5,h7,h6⟩:=LP.obj j _ hgl;exact ⟨hK.F0 _ h4,row,t,fr,by rw[Akx _ h4];exact h5,h7,λ q c hq=>(h6 q c hq).keep Akx hK.F0⟩
 . rcases Ack i o ho with h2 | ⟨rfl,rfl⟩
   . rcases Ack i' o' Nf with h3 | ⟨rfl,rfl⟩
     . rw[hM2 i (Dl i o h2)] at CI;rw[hM2 i' (Dl i' o' h3)] at Eu;exact Vd.inj i o i' o' b h2 h3 CI Eu
     . exact Eu.elim
   . exact CI.elim
 . refine ⟨hK.os,hK.tape,hK.output,hK.size,λ b hb hO=>hK.LR b hb (λ h2=>hO ((Aks b).2 h2)),hK.F0,λ b hb=>?_,hK.Fl,?_,?_,Sj⟩
   . rcases hK.Fn b hb with h2 | h2 | h2
     . exact .inl h2
     . exact .inr (.inl ((Aks b).2 h2))
     . exact .inr (.inr h2)
   . rintro b ⟨i,o,ho,CI⟩;rcases Ack i o ho with h2 | ⟨rfl,rfl⟩
     . rw[hM2 i (Dl i o h2)] at CI;rcases hK.own _ ⟨i,o,h2,CI⟩ with h3 | h3
       . exact .inl ((Aks _).2 h3)
       . exact .inr h3
     . exact CI.elim
   . have G5:=hK.VB;refine ⟨λ i hi=>?_,λ i sz n hi=>?_,λ i sz n kk hi=>?_⟩
     . by_cases e:i=id
       . subst e;exact ⟨by simp[sg,Bbz,AO.sg],by simp[M2]⟩
       . have EP:sg (h++[(id,AO.Df g cs)]) i=some .box:=hi;have TS:sg h i=some .box:=by
           clear hi;unfold sg at EP ⊢;rw[Hz] at EP;cases hg:get h i with
           | some o=>rw[hg] at EP;exact EP
           | none=>rw[hg] at EP;simp[Cp,get,Bm e] at EP
         obtain ⟨h2,h3⟩:=G5.1 i TS;exact ⟨(Mo i _ h2).1,by rw[(Mo i _ h2).2];exact h3⟩
     . have e:i≠id:=by rintro rfl;simp[sg,hgl,AO.sg] at hi
       have EP:sg (h++[(id,AO.Df g cs)]) i=some (.arr sz n):=hi;have TS:sg h i=some (.arr sz n):=by
         clear hi;unfold sg at EP ⊢;rw[Hz] at EP;cases hg:get h i with
         | some o=>rw[hg] at EP;exact EP
         | none=>rw[hg] at EP;simp[Cp,get,Bm e] at EP
       obtain ⟨n',h2,h3,h4⟩:=G5.2.1 i sz n TS;exact ⟨n',(Mo i _ h2).1,h3,λ e2=>by rw[(Mo i _ h2).2];exact h4 e2⟩
     . have e:i≠id:=by rintro rfl;simp[sg,hgl,AO.sg] at hi
       have EP:sg (h++[(id,AO.Df g cs)]) i=some (.Dj sz n kk):=hi;have TS:sg h i=some (.Dj sz n kk):=by
         clear hi;unfold sg at EP ⊢;rw[Hz] at EP;cases hg:get h i with
         | some o=>rw[hg] at EP;exact EP
         | none=>rw[hg] at EP;simp[Cp,get,Bm e] at EP
       obtain ⟨n',k',h2,h3,h3',h4,h4'⟩:=G5.2.2 i sz n kk TS;exact ⟨n',k',(Mo i _ h2).1,h3,h3',λ e2=>by rw[(Mo i _ h2).2];exact h4 e2,λ e2=>by rw[(Mo i _ h2).2];exact h4' e2⟩
end Go.Am
namespace Go.Am
open Go Go.ChangeShapes Go.RowKit
section
variable {P:Program} {w:World} {F:Nat->Prop} {M:Nat->Mb} {s:Nat->Option Sg} {m:Mb}
def N8(k:IntKind)(zs:List Int):List Pd:=zs.map λ z=> .int k z
theorem Aip{name:String}{k:IntKind}{zs:List Int}{g:Nat}(hg:P.globalNamed name=some g)(hF:F g)(h:Lib.TabIs P w name k zs):NO F w M s m (.Df g (N8 k zs)):=by
 unfold Lib.TabIs World.var? at h;rw[hg] at h;simp only[Aa] at h;split at h
 . rename_i cs t fr hc;cases h;refine ⟨hF,_,t,fr,hc,by simp[N8],λ j c hj=>?_⟩;simp only[N8,AQ,BC] at hj;obtain ⟨z,hz,rfl⟩:=hj;rw[As];simp only[BU,AQ,hz,Bn,AY];exact .int k z
 . cases h
theorem Al7{name:String}{k:IntKind}{zs:List Int}{g:Nat}(hg:P.globalNamed name=some g)(h:NO F w M s m (.Df g (N8 k zs))):Lib.TabIs P w name k zs:=by
 obtain ⟨_,row,t,fr,h1,h2,h3⟩:=h;unfold Lib.TabIs World.var?;rw[hg];simp only[Aa,h1,Al];apply Array.ext_getElem?;intro j;by_cases hj:j<zs.length
 . have h4:=h3 j (.int k zs[j]) (by simp[N8,hj]);have Ct:j<row.size:=by rw[h2];simpa [N8] using hj
   rw[As,A7 Ct] at h4;rw[A7 Ct];simp only[AY] at h4;simp only[BU,AQ,Ax hj,Bn];generalize row[j]=y at h4;cases h4;rfl
 . have Ct:¬j<row.size:=by rw[h2];simpa [N8] using hj
   rw[Array.getElem?_eq_none (by omega)];simp only[BU,AQ,List.getElem?_eq_none (Nat.le_of_not_lt hj),Option.map_none]
theorem Abo{name:String}{k:IntKind}{zs:List Int}{g f:Nat}{args:List D}{out:List UInt8}(hg:P.globalNamed name=some g)(Hw:Enters P f)
   (hc:∀(vs:Array Value) w F M,IW F w M (sg [(base,AO.Df g (N8 k zs))]) args vs.toList->Lib.TabIs P w name k zs->Calls P f vs w λ e w'=>e= .returned (.string ⟨out.toArray⟩)/\∃n os,w'=Sort.grow (w.drewN n) os):
   BZ P f args [(base,.Df g (N8 k zs))] λ h r=>h=[(base,.Df g (N8 k zs))]/\r= .p (.str out):=by
 intro vs w F M LP OX Sj hd;have ho:=LP.obj base (.Df g (N8 k zs)) rfl;refine .inl ⟨Hw vs w,(hc vs w F M hd (Al7 hg ho)).mono ?_⟩;rintro e w' ⟨rfl,n,os,rfl⟩;have hold:∀b,b<w.heap.size->(Sort.grow (w.drewN n) os).heap[b]?=w.heap[b]?:=λ b hb=>by
   simp[Sort.grow,World.drewN,Array.getElem?_append,hb]
 have LV:∀b,¬EF M [(base,AO.Df g (N8 k zs))] b:=by
   rintro b ⟨i,o,h1,h2⟩;rw[Cp] at h1;split at h1
   . cases h1;exact h2
   . simp[get] at h1
 refine ⟨_,_,_,F,M,rfl,⟨rfl,rfl⟩,LP.keep (λ b hb=>hold b (OX b hb)) (λ b hb=>(LV b hb).elim),.p (.str out),⟨rfl,rfl,rfl,?_,λ b hb _=>hold b hb,λ _ h=>h,λ _ h=> .inl h,?_,λ b hb=>(LV b hb).elim,CN.refl _ _,Sj⟩⟩
 . simp[Sort.grow,World.drewN]
 . intro b hb;have:=OX b hb;simp[Sort.grow,World.drewN];omega
theorem o9{g f:Nat}(hg:P.globalNamed "internal/strconv.uint64pow10" =some g)(Hw:Enters P f)
   (hc:∀(n:Int) (w:World),-9223372036854775808<=n->n<=9223372036854775807->Lib.TabIs P w "internal/strconv.uint64pow10" .u64 Lib.pow10Tab->
     Calls P f #[.int .i64 n] w λ e w'=>e= .returned (.string ⟨(Lib.itoa n).toArray⟩)/\∃k os,w'=Sort.grow (w.drewN k) os)
   (n:Int) (h0:-9223372036854775808<=n) (h1:n<=9223372036854775807):
   BZ P f [.p (.int .i64 n)] [(base,.Df g (N8 .u64 Lib.pow10Tab))] λ h r=>h=[(base,.Df g (N8 .u64 Lib.pow10Tab))]/\r= .p (.str (Lib.itoa n)):=by
 refine Abo hg Hw λ vs w F M hd ht=>?_;have hl:=hd.1;have h2:=hd.2 0 _ rfl;obtain ⟨v,rfl⟩:∃v,vs=#[v]:=by
   obtain ⟨l⟩:=vs
   match l,hl with
   | [v],_=>exact ⟨v,rfl⟩
 have e:v= .int .i64 n:=by
   simp only[A3] at h2;cases h2 with | p h=>cases h;rfl
 subst e;exact hc n w h0 h1 ht
end
section
variable {H:Type} {enc:TypeId×Value->H} {P:Program} {W:World}
theorem Aae{bs:Nat}{f:FuncId}{fn:Func}{s:ChangeSpec}{args:Array Value}{ds gs:List (DataW H)}{before:List MemPlace}{tb:TypeId}{g:Nat}{cs:List Pd}
   (Ip:∀(j:Nat) t v,fn.params[j]?=some t->args[j]?=some v->Value.okWide P W .any bs t v)
   (hW:DataW.Whole enc P fn.params.toList s.vars false W args.toList ds gs before) (hv:s.vars=[])
   (ht:fn.params.toList.all (UT P)=true) (Sk:fn.resultTypes=#[tb]) (htb:P.underlying tb=some .bool)
   (hs:s.fn H ds={results:=[.lit (.bool true)],args:=ds})
   (Hw:Enters P f) (hgl:∀(M:Nat->Mb) s m,NO (λ b=>b<W.heap.size) W M s m (.Df g cs))
   (hc:BZ P f (ds.map Aoa) [(base,.Df g cs)] λ h r=>h=[(base,.Df g cs)]/\r= .p (.bool true)):
   Calls P f args W λ e W'=>∃v,e= .returned v/\s.post enc P fn false true false false W args v W':=by
 have hW0:=hW;obtain ⟨p,q,hA,hV,rfl,hfz,hnd⟩:=hW;rw[hv] at hV;obtain ⟨rfl,rfl⟩:=trodVars_none hV;have Ct:∀x∈p,x.block<W.heap.size:=λ x hx=>hW0.lt x (by simp[hx]);have Cs:∀i o,get [(base,AO.Df g cs)] i=some o->i=base/\o= .Df g cs:=by
   intro i o h1;rw[Cp] at h1;split at h1
   . rename_i e;cases h1;exact ⟨e.symm,rfl⟩
   . simp[get] at h1
 have LV:∀(M:Nat->Mb) b,¬EF M [(base,AO.Df g cs)] b:=by
   rintro M b ⟨i,o,h1,h2⟩;obtain ⟨_,rfl⟩:=Cs i o h1;exact h2
 have Zo:=(hc args W (λ b=>b<W.heap.size) (λ _=>⟨0,0,[]⟩) ⟨λ id o h=>by obtain ⟨_,rfl⟩:=Cs id o h;exact hgl _ _ _,λ id o Ou o' b h _ h2=>by obtain ⟨_,rfl⟩:=Cs id o h;exact h2.elim⟩ (λ _ h=>h)
   (λ id h=>by
     unfold sg at h;cases h1:get [(base,AO.Df g cs)] id with
     | none=>rw[h1] at h;exact (h rfl).elim
     | some o=>obtain ⟨rfl,_⟩:=Cs id o h1;exact Ai _)
   (Uv ht (λ j t v h1 h2=>Ip j t v (by simpa using h1) (by simpa using h2)) hA))
 have Lg:=Zo.resolve_right (λ ⟨v,w',h1,_⟩=>by rw[Hw] at h1;cases h1);refine Lg.2.mono ?_;rintro e W' ⟨v,h',r,F',M',rfl,⟨rfl,rfl⟩,_,hd,hk⟩;obtain rfl:v= .bool true:=by cases hd with | p hd=>cases hd;rfl
 have hold:∀b,b<W.heap.size->W'.heap[b]?=W.heap[b]?:=λ b hb=>hk.LR b hb (LV _ b);refine ⟨_,rfl,ds,[],p++[],[],p,[],by simpa using hW0,?_,?_,?_,Za hk.os hk.output hold _,λ h=>by cases h⟩
 . rw[List.append_nil,hs,Sk];exact trodAll_cons_mk (shut_bool htb _) trodAll_mk0
 . rw[List.append_nil,hs];exact WI hold ht hA (λ x hx=>by simpa using Ct x hx) Ct
 . rw[List.append_nil,hs,hv];rfl
end
end Go.Am
namespace Go.Am
open Go Go.ChangeShapes Go.RowKit
section
variable {P:Program}
theorem Ls{f:FuncId}{args:List D}{h:Hp}{out:Pd}(Hw:Enters P f)
   (hc:∀(vs:Array Value) w F M,HR F w M h->(∀b,F b->b<w.heap.size)->IW F w M (sg h) args vs.toList->
     Calls P f vs w λ e w'=>∃v,e= .returned v/\PR (λ _=>False) w' out v/\Below w.heap.size w w'):
   BZ P f args h λ h' r=>h'=h/\r= .p out:=by
 intro vs w F M LP OX Sj hd;refine .inl ⟨Hw vs w,(hc vs w F M LP OX hd).mono ?_⟩;rintro e w' ⟨v,rfl,hp,hb⟩;have hold:∀b,b<w.heap.size->w'.heap[b]?=w.heap[b]?:=hb.block;refine ⟨_,_,_,F,M,rfl,⟨rfl,rfl⟩,LP.keep (λ b hb=>hold b (OX b hb)) (λ b hb=>hold b (LP.lt hb)),.p (hp.keep (λ _ h=>h.elim) (λ _ h=>h.elim)),⟨hb.os,hb.tape,hb.output,hb.size,λ b hb _=>hold b hb,λ _ h=>h,λ _ h=> .inl h,?_,λ b hb=> .inl hb,CN.refl _ _,Sj⟩⟩;intro b Yk;exact Nat.lt_of_lt_of_le (OX b Yk) hb.size
theorem Ab6{F:Nat->Prop}{w:World}{M:Nat->Mb}{s:Nat->Option Sg}{l:List UInt8}{v:Value}(h:DR F w M s (.p (.str l)) v):v= .string ⟨l.toArray⟩:=by
 cases h with | p h=>cases h;rfl
theorem Av8{F:Nat->Prop}{w:World}{M:Nat->Mb}{s:Nat->Option Sg}{k:IntKind}{n:Int}{v:Value}(h:DR F w M s (.p (.int k n)) v):v= .int k n:=by
 cases h with | p h=>cases h;rfl
theorem XN{F:Nat->Prop}{w:World}{M:Nat->Mb}{s:Nat->Option Sg}{x y:D}{vs:Array Value}(h:IW F w M s [x,y] vs.toList):∃a b,vs=#[a,b]/\DR F w M s x a/\DR F w M s y b:=by
 have hl:=h.1;obtain ⟨a,b,rfl⟩:∃a b,vs=#[a,b]:=by
   obtain ⟨l⟩:=vs
   match l,hl with
   | [a,b],_=>exact ⟨a,b,rfl⟩
 exact ⟨a,b,rfl,h.2 0 _ rfl,h.2 1 _ rfl⟩
theorem Ati{w:World}{name:String}{k:IntKind}{zs:List Int}{g:Nat}(hg:P.globalNamed name=some g)(h:Lib.TabIs P w name k zs):g<w.heap.size:=by
 unfold Lib.TabIs World.var? at h;rw[hg] at h;simp only[Aa] at h;split at h
 . rename_i cs t fr hc;exact (Ba.1 hc).1
 . cases h
theorem YD{W:World}{name:String}{k:IntKind}{zs:List Int}{l:List (String×DataW Unit)}{keep:String×DataW Unit->Bool}{g:Nat}{t e:TypeId}{n:Nat}(h:laidMetH P l W)(hk:l.filter keep=[(name,Lib.tabData k zs)])
   (hh:(Lib.tabData k zs:DataW Unit).handleName?=none)
   (hg:P.globalNamed name=some g) (hty:(P.globals[g]?).map (·.type)=some t) (ht:P.underlying t=some (.array n e)) (he:P.underlying e=some (.int k)) (hce:P.cellsOf e=1) (hct:P.cellsOf t=n):Lib.TabIs P W name k zs:=by
 have h1:=h.filter keep;rw[hk] at h1;unfold laidMetH at h1;simp only[List.filter_cons,hh,Bd,AJ,A9,List.filter_nil] at h1;exact Lib.tabIs_of_head hg hty ht he hce hct h1
end
end Go.Am
namespace Go.Am
open Go Go.ChangeShapes Go.RowKit
section
variable {H:Type} {enc:TypeId×Value->H} {P:Program} {W:World}
end
end Go.Am
namespace Go.Am
open Go
section
variable {P:Program} {c:Ctx} {st:St} {a:Act} {w w':World} {F:Nat->Prop} {M:Nat->Mb} {s:Nat->Option Sg}
def Fz(F:Nat->Prop)(w w':World):Prop:=∀b row t fr,F b->w.heap[b]?=some (.cells row t fr)->∃fr',w'.heap[b]?=some (.cells row t fr')
theorem PR.fz{x:Pd}{v:Value}(h:PR F w x v)(hs:Fz F w w'):PR F w' x v:=by
 induction h with
 | int k n=>exact .int k n
 | bool b=>exact .bool b
 | str l=>exact .str l
 | Vz a cap=>exact .Vz a cap
 | sl es b off cap sz row t fr hb hh hc hz hi hp ih=>
   obtain ⟨fr',h'⟩:=hs b row t fr hb hh;exact .sl es b off cap sz row t fr' hb h' hc hz hi ih
theorem DR.fz{d:D}{v:Value}(h:DR F w M s d v)(hs:Fz F w w'):DR F w' M s d v:=by
 induction h with
 | p h=>exact .p (h.fz hs)
 | agg cs vs hl _ ih=>exact .agg cs vs hl ih
 | Dg cs vs hl _ ih=>exact .Dg cs vs hl ih
 | cl es a h hn=>exact .cl es a (h.fz hs) hn
 | cz es a h=>exact .cz es a (h.fz hs)
 | ref id off len N sz n v h1 hN hv h2=>exact .ref id off len N sz n v h1 hN hv h2
 | ptr id off h1=>exact .ptr id off h1
 | pe cs b off row t fr hb hh hi hp=>
   obtain ⟨fr',h'⟩:=hs b row t fr hb hh;exact .pe cs b off row t fr' hb h' hi (λ j x hx=>(hp j x hx).fz hs)
 | ea id i c N sz n v h1 hN hv h2=>exact .ea id i c N sz n v h1 hN hv h2
 | fn f cap vs hl _ ih=>exact .fn f cap vs hl ih
 | np=>exact .np
 | mv id h1=>exact .mv id h1
 | Di id n sz m k v hs hN hv h=>exact .Di id n sz m k v hs hN hv h
 | LL id i n sz m k b hs hN hi h=>exact .LL id i n sz m k b hs hN hi h
 | nr id i len q sz m k v hs hN hv h=>exact .nr id i len q sz m k v hs hN hv h
 | Qs v h=>exact .Qs v h
 | bad v=>exact .bad v
theorem NO.fz{m:Mb}{o:AO}(h:NO F w M s m o)(hs:Fz F w w')(hn:∀b,¬F b->w'.heap[b]?=w.heap[b]?):NO F w' M s m o:=by
 cases o with
 | box cs ty=>
   obtain ⟨h1,row,t,h2,h3,h4⟩:=h;exact ⟨h1,row,t,by rw[hn _ h1];exact h2,h3,λ j d hd=>⟨(h4.1 j d hd).1.fz hs,(h4.1 j d hd).2⟩,h4.2⟩
 | arr t sz es=>
   obtain ⟨h1,h2,He,h3,h4⟩:=h;refine ⟨h1,h2,He,h3,λ hc=>?_⟩;obtain ⟨h5,row,h6,h7,h8⟩:=h4 hc;exact ⟨h5,row,h6.keep (hn _ h5),h7,λ i e j x he hj=>(h8 i e j x he hj).fz hs⟩
 | LG sz es=>
   obtain ⟨h1,h2,h3,h4⟩:=h;refine ⟨h1,h2,h3,λ hc=>?_⟩;obtain ⟨h5,row,t,fr,h6,h7,h8⟩:=h4 hc;obtain ⟨fr',h'⟩:=hs _ row t fr h5 h6;exact ⟨h5,row,t,fr',h',h7,λ i e j x he hj=>(h8 i e j x he hj).fz hs⟩
 | iter l pos=>
   obtain ⟨h1,h2⟩:=h;exact ⟨h1,by rw[hn _ h1];exact h2⟩
 | Df g cs=>
   obtain ⟨h1,row,t,fr,h2,h4,h3⟩:=h;obtain ⟨fr',h'⟩:=hs _ row t fr h1 h2;exact ⟨h1,row,t,fr',h',h4,λ j x hx=>(h3 j x hx).fz hs⟩
 | Fi o=>exact o.Ar1 h hs hn
 | mp l=>
   obtain ⟨h1,⟨es,clock,h2,h3⟩,h4⟩:=h;exact ⟨h1,⟨es,clock,by rw[hn _ h1];exact h2,h3⟩,h4⟩
 | Dj t e sz k rows hole=>
   refine ⟨h.pos,h.xl,h.le,h.max,λ hc=>?_,λ i r bc h1 h2 h3=>?_,h.Aac,h.dis,h.out⟩
   . obtain ⟨h1,row,h2,h3⟩:=h.outer hc;exact ⟨h1,row,by rw[hn _ h1];exact h2,h3⟩
   . obtain ⟨g1,g2,g2',g3,g4⟩:=h.rows i r bc h1 h2 h3;refine ⟨g1,g2,g2',g3,λ hc=>?_⟩;obtain ⟨h5,row,h6,h7,h8⟩:=g4 hc;exact ⟨h5,row,h6.keep (hn _ h5),h7,λ i e j x he hj=>(h8 i e j x he hj).fz hs⟩
theorem Rel.fz(hr:Rel c st a w F M)(hs:Fz F w w')(hn:∀b,¬F b->w'.heap[b]?=w.heap[b]?)(hos:w'.os=w.os)(Mn:w'.tape=w.tape)(Ow:w'.output=w.output)(Hr:w'.heap.size=w.heap.size)
   (hold:∀b,b<c.w0.heap.size->¬c.O0 b->w'.heap[b]?=w.heap[b]?):Rel c st a w' F M:=by
 have hk:=hr.keep;exact ⟨λ t d ht=>(hr.env t d ht).fz hs,hr.size,hr.defers,⟨λ id o ho=>(hr.heap.obj id o ho).fz hs hn,hr.heap.inj⟩,
   ⟨hos.trans hk.os,Mn.trans hk.tape,Ow.trans hk.output,by rw[Hr];exact hk.size,λ b hb hO=>(hold b hb hO).trans (hk.LR b hb hO),hk.F0,hk.Fn,λ b hb=>by rw[Hr];exact hk.Fl b hb,hk.own,hk.VB,hk.s0b⟩⟩
theorem R4(w:World)(g n b:Nat):(w.freeze ⟨g,0,none⟩ n).heap[b]?=if b=g/\n≠0 then (w.heap[b]?).map (λ | .cells c elem (lo,hi)=> .cells c elem (if lo==hi then (0,0+n) else (min lo 0,max hi (0+n))) | o=>o) else w.heap[b]?:=by
 unfold World.freeze;by_cases hn:n=0
 . rw[if_pos hn,if_neg (by simp[hn])]
 . rw[if_neg hn];simp only[Array.getElem?_modify];by_cases hb:g=b
   . subst hb;rw[if_pos rfl,if_pos ⟨rfl,hn⟩];cases w.heap[g]? with
     | none=>rfl
     | some o=>cases o<;>rfl
   . rw[if_neg hb,if_neg (λ h=>hb h.1.symm)]
theorem SE{F:Nat->Prop}{w:World}{M:Nat->Mb}{s:Nat->Option Sg}{x:D}{vs:Array Value}(h:IW F w M s [x] vs.toList):∃v,vs=#[v]/\DR F w M s x v:=by
 have hl:=h.1;obtain ⟨v,rfl⟩:∃v,vs=#[v]:=by
   obtain ⟨l⟩:=vs
   match l,hl with
   | [v],_=>exact ⟨v,rfl⟩
 exact ⟨v,rfl,h.2 0 _ rfl⟩
theorem Ul{id off:Nat}{v:Value}(h:DR F w M s (.ptr id off) v):v= .pointer (some ⟨(M id).Dt,off,none⟩):=by cases h;rfl
theorem Sz{row:Array Value}(h:row.size=2):∃p v,row=#[p,v]:=by
 obtain ⟨l⟩:=row
 match l,h with
 | [p,v],_=>exact ⟨p,v,rfl⟩
theorem o8{f:FuncId}{args:List D}{h:Hp}{r:D}(Hw:Enters P f)(hc:∀(vs:Array Value) w F M,HR F w M h->IW F w M (sg h) args vs.toList->∃v,DR F w M (sg h) r v/\Calls P f vs w λ e w'=>e= .returned v/\w'=w):
   BZ P f args h λ h' r'=>h'=h/\r'=r:=by
 intro vs w F M LP OX Sj hd;obtain ⟨v,hv,Qk⟩:=hc vs w F M LP hd;refine .inl ⟨Hw vs w,Qk.mono ?_⟩;rintro e w' ⟨rfl,rfl⟩;exact ⟨v,h,r,F,M,rfl,⟨rfl,rfl⟩,LP,hv,⟨rfl,rfl,rfl,Ai _,λ _ _ _=>rfl,λ _ h=>h,λ _ h=> .inl h,OX,λ _ h=> .inl h,CN.refl _ _,Sj⟩⟩
theorem OT{f:FuncId}{h:Hp}{x:D}{T:TypeId}(Hw:Enters P f)(hg:get h base=some (.box [.ptr base 0,x] T))
   (hc:∀(b:Nat) (w:World),w.cell? ⟨b,0,none⟩=some (.pointer (some ⟨b,0,none⟩))->Calls P f #[.pointer (some ⟨b,0,none⟩)] w λ e w'=>e= .returned (.tuple #[])/\w'=w):
   BZ P f [.ptr base 0] h λ h' r=>h'=h/\r= .Dg []:=by
 refine o8 Hw λ vs w F M LP hd=>⟨.tuple #[],.Dg [] #[] rfl (λ i d hd=>by simp at hd),?_⟩;obtain ⟨v,rfl,hv⟩:=SE hd;rw[Ul hv];refine hc _ _ ?_;obtain ⟨_,row,t,CS,Em,CP,_⟩:=LP.obj base _ hg;obtain ⟨p,q,rfl⟩:=Sz Em;have h0:=(CP 0 _ rfl).1;have:=Ul h0;simp only[World.cell?,CS]
 simpa using this
theorem NP{f:FuncId}{x:D}{T:TypeId}(Hw:Enters P f)(hT:T≠0)
   (hc:∀(b:Nat) (w:World),w.cell? ⟨b,0,none⟩=some (.pointer none)->w.shape? b=some (T,2)->w.frozen? ⟨b,0,none⟩=false->Calls P f #[.pointer (some ⟨b,0,none⟩)] w λ e w'=>e= .returned (.tuple #[])/\w'=w.setCell ⟨b,0,none⟩ (.pointer (some ⟨b,0,none⟩))):
   BZ P f [.ptr base 0] [(base,.box [.np,.cl []] T)] λ h' r=>h'=[(base,.box [.ptr base 0,.cl []] T)]/\r= .Dg []:=by
 intro vs w F M LP OX Sj hd;obtain ⟨v,rfl,hv⟩:=SE hd;rw[Ul hv];have hg:get [(base,AO.box [.np,.cl []] T)] base=some (.box [.np,.cl []] T):=rfl;obtain ⟨LC,row,t,CS,Em,CP,hx⟩:=LP.obj base _ hg;obtain ⟨p,q,rfl⟩:=Sz Em;rw[show O5 T t=T by simp[O5,hT]] at CS;have h0:=(CP 0 _ rfl).1;have hp:p= .pointer none:=by
   have:(#[p,q]:Array Value).getD 0 undef=p:=rfl;rw[this] at h0;cases h0;rfl
 subst hp;refine .inl ⟨Hw _ w,(hc _ w ?_ ?_ ?_).mono ?_⟩
 . simp[World.cell?,CS]
 . simp[World.shape?,CS]
 . simp[World.frozen?,CS]
 rintro e w' ⟨rfl,rfl⟩;have EZ:w.setCell ⟨(M base).Dt,0,none⟩ (.pointer (some ⟨(M base).Dt,0,none⟩))=w.setRow (M base).Dt #[.pointer (some ⟨(M base).Dt,0,none⟩),q]:=by
   unfold World.setCell World.setRow
   congr 1
   apply Array.ext_getElem?;intro j;simp only[Array.getElem?_modify];by_cases hj:(M base).Dt=j
   . subst hj;rw[if_pos rfl,if_pos rfl,CS];rfl
   . rw[if_neg hj,if_neg hj]
 rw[EZ];have hr0:=Rel.start (args:=[]) (vs:=#[]) (n:=0) LP OX Sj ⟨rfl,λ i d hd=>by simp at hd⟩ (AE _);obtain ⟨w1,I5,GG⟩:=hr0.YF (P:=P) (id:=base) (off:=0) (cs:=[.ptr base 0]) (vs:=[.pointer (some ⟨(M base).Dt,0,none⟩)]) hg ⟨rfl,λ i d hd=>by
   cases i with
   | zero=>simp only[AK,Al] at hd;subst hd;exact .ptr base 0 rfl
   | succ i=>simp at hd⟩ rfl (by simp)
 have Dq:=run_storeCells_at P (M base).Dt 0 T [.pointer (some ⟨(M base).Dt,0,none⟩)] 0 #[.pointer none,q] w CS (by simp) (by simp[Value.oneCell']);simp only[Bj] at Dq;rw[Dq] at I5;cases I5;refine ⟨_,_,.Dg [],F,M,rfl,⟨?_,rfl⟩,GG.heap,.Dg [] #[] rfl (λ i d hd=>by simp at hd),GG.keep⟩;cases T with
 | zero=>exact (hT rfl).elim
 | succ T=>simp[Cw,Ks,D.TA]
theorem UD{f:FuncId}{e T:TypeId}{l:List UInt8}{px:D}(Hw:Enters P f)(hl:l≠[])
   (hc:∀(b g n cap:Nat) (p:Value) (cur:Array Value) (T:TypeId) (w:World) (fr:Nat×Nat),w.heap[b]?=some (.cells #[p,.slice (some ⟨g,0,none⟩) n cap] T (0,0))->n=l.length->w.heap[g]?=some (.cells cur e fr)->n<=cap->cap<=maxLen->cur.size=cap->
     (∀(j:Nat) (x:UInt8),l[j]?=some x->cur[j]?=some (Value.int .u8 x.toNat))->Calls P f #[.pointer (some ⟨b,0,none⟩)] w λ e w'=>e= .returned (.string ⟨l.toArray⟩)/\w'=w.drew.freeze ⟨g,0,none⟩ l.length):
   BZ P f [.ptr base 0] [(base,.box [px,.ref (base+1) 0 l.length l.length] T),(base+1,.arr e 1 (D3 l))]
     λ h' r=>h'=[(base,.box [px,.ref (base+1) 0 l.length l.length] T),(base+1,.LG 1 (D3 l))]/\r= .p (.str l):=by
 intro vs w F M LP OX Sj hd;obtain ⟨v,rfl,hv⟩:=SE hd;rw[Ul hv];have hll:l.length≠0:=by simpa using hl
 have hel:(D3 l).length=l.length:=by simp[D3]
 have hg0:get [(base,AO.box [px,.ref (base+1) 0 l.length l.length] T),(base+1,.arr e 1 (D3 l))] base=some (.box [px,.ref (base+1) 0 l.length l.length] T):=rfl;have Ra:get [(base,AO.box [px,.ref (base+1) 0 l.length l.length] T),(base+1,.arr e 1 (D3 l))] (base+1)=some (.arr e 1 (D3 l)):=rfl;obtain ⟨LC,row,t,CS,Em,CP,_⟩:=LP.obj base _ hg0;obtain ⟨p,q,rfl⟩:=Sz Em;obtain ⟨_,h2,h3,_,h5⟩:=LP.obj (base+1) _ Ra;have h3':=h3;have h6:=(CP 1 _ rfl).1;have e1:(#[p,q]:Array Value).getD 1 undef=q:=rfl;rw[e1] at h6;obtain ⟨ad,cap,rfl,h7,h8,h9,JI⟩:RI (M (base+1)) 1 l.length 0 l.length q:=by
   cases h6 with
   | ref _ _ _ _ sz n _ hs hN RX RY=>
     have Mp:sg [(base,AO.box [px,.ref (base+1) 0 l.length l.length] T),(base+1,.arr e 1 (D3 l))] (base+1)=some (.arr 1 l.length):=by rw[sg,Ra];simp[AO.sg,hel]
     rw[Mp] at hs;simp only[Al,Sg.arr.injEq] at hs;obtain ⟨rfl,rfl⟩:=hs;exact RY rfl
 have Ju:cap≠0:=λ h0=>hll (Nat.le_zero.1 (h0 ▸ h8));obtain rfl:=JI.resolve_left Ju;have Ayb:(M (base+1)).cap≠0:=λ h0=>Ju ((A2 cap).symm.trans (h9.trans h0));clear h7 h3;obtain ⟨hnG,cur,⟨frc,Bc6,_⟩,hcs,hcc⟩:=h5 Ayb;rw[Nat.zero_mul] at CS;refine .inl ⟨Hw _ w,(hc _ _ _ _ _ cur _ w frc CS rfl Bc6 h8 (by have:=(A2 cap).symm.trans h9;rw[this];exact h3') (by have:=(A2 cap).symm.trans h9;rw[hcs,this,Nat.mul_one]) ?_).mono ?_⟩
 . intro j x hx;have Ct:=(An.1 hx).1;have r7:=hcc j [.int .u8 x.toNat] 0 (.int .u8 x.toNat) (by simp[D3,hx]) rfl;have Sn:j<cur.size:=by omega
   simp only[Nat.mul_one,Bj] at r7;rw[As,A7 Sn] at r7;rw[A7 Sn];simp only[AY] at r7;generalize cur[j]=y at r7;cases r7;rfl
 rintro e2 w' ⟨rfl,rfl⟩;have hr0:=Rel.start (args:=[]) (vs:=#[]) (n:=0) LP OX Sj ⟨rfl,λ i d hd=>by simp at hd⟩ (AE _);have GG:=hr0.freeze Ra;have Ht:=GG.drew;have CI:EF M [(base,AO.box [px,.ref (base+1) 0 l.length l.length] T),(base+1,.arr e 1 (D3 l))] (M (base+1)).Dt:=⟨base+1,_,Ra,by show (M (base+1)).cap≠0;omega,rfl⟩;have Aky:∀b,b≠(M (base+1)).Dt->(w.drew.freeze ⟨(M (base+1)).Dt,0,none⟩ l.length).heap[b]?=w.heap[b]?:=λ b hb=>by
   rw[R4,if_neg (λ h=>hb h.1)];rfl
 have hr3:=Ht.fz (w':=w.drew.freeze ⟨(M (base+1)).Dt,0,none⟩ l.length) (λ b row t fr hF hb=>by
     by_cases e3:b=(M (base+1)).Dt
     . subst e3;rw[R4,if_pos ⟨rfl,hll⟩];have Rc:w.drew.heap[(M (base+1)).Dt]?=some (.cells row t fr):=hb;rw[Rc];obtain ⟨lo,hi⟩:=fr;exact ⟨_,rfl⟩
     . exact ⟨fr,by rw[Aky b e3];exact hb⟩) (λ b hF=>by
     by_cases e3:b=(M (base+1)).Dt
     . exact (hF (.inr ⟨by omega,e3⟩)).elim
     . exact Aky b e3) (by unfold World.freeze;split<;>rfl) (by unfold World.freeze;split<;>rfl) (by unfold World.freeze;split<;>rfl) (by unfold World.freeze;split<;>simp<;>rfl)
   (λ b hb hO=>by
     by_cases e3:b=(M (base+1)).Dt
     . subst e3;exact (hO CI).elim
     . exact Aky b e3)
 refine ⟨_,_,.p (.str l),_,M,rfl,⟨?_,rfl⟩,hr3.heap,.p (.str l),hr3.keep⟩;simp[froze,Ra,Cw]
theorem OS{f:FuncId}{T:TypeId}(Hw:Enters P f)(hT:T≠0)
   (hc:∀(b:Nat) (p:Value) (T:TypeId) (w:World),w.heap[b]?=some (.cells #[p,.slice none 0 0] T (0,0))->Calls P f #[.pointer (some ⟨b,0,none⟩)] w λ e w'=>e= .returned (.string ⟨#[]⟩)/\w'=w.drew):
   BZ P f [.ptr base 0] [(base,.box [.np,.cl []] T)] λ h' r=>h'=[(base,.box [.np,.cl []] T)]/\r= .p (.str []):=by
 intro vs w F M LP OX Sj hd;obtain ⟨v,rfl,hv⟩:=SE hd;rw[Ul hv];have hg:get [(base,AO.box [.np,.cl []] T)] base=some (.box [.np,.cl []] T):=rfl;obtain ⟨LC,row,t,CS,Em,CP,hx⟩:=LP.obj base _ hg;obtain ⟨p,q,rfl⟩:=Sz Em;have hq:q= .slice none 0 0:=hx hT rfl 1 rfl;subst hq;refine .inl ⟨Hw _ w,(hc _ _ _ w CS).mono ?_⟩;rintro e w' ⟨rfl,rfl⟩;have hr0:=Rel.start (args:=[]) (vs:=#[]) (n:=0) LP OX Sj ⟨rfl,λ i d hd=>by simp at hd⟩ (AE _);have GG:=hr0.drew;exact ⟨_,_,.p (.str []),F,M,rfl,⟨rfl,rfl⟩,GG.heap,.p (.str []),GG.keep⟩
end
end Go.Am
namespace Go.Am
open Go
section
variable {P:Program} {ops rest:List Oper} {k:Kt} {st:St} {o:Oper}
theorem WO{c:Call}{x:Operand}{id t:Nat}{l:List (Pd×Pd)}{kk:KK}{z:Pd}(ho:o.op= .call c)(hc:c.callee= .builtin .len)(ha:c.args=#[x])(ht:c.argTypes=#[t])
   (hm:mapOf P t=some (kk,z)) (hx:ev st x= .mv id) (hg:get st.hp id=some (.mp l)) (h:O P true ops rest k (st.put o.dst (.p (.int .i64 (l.length:Nat))))):Af P true ops rest k o st .fail:=by
 refine IF λ ct a w F M Q hr=>?_;obtain ⟨kt,e,d,ii,zv,hu,hk,hd,EP,hz,rfl,hzf⟩:=K4 hm;obtain ⟨LC,⟨es,clock,hb,Ld⟩,OW⟩:=hr.heap.obj id _ hg;have hv:=Ci hr x;rw[hx] at hv;generalize Nd:a.eval x=v at hv;cases hv with
 | mv _ hs=>
   have hlen:es.size=l.length:=by have:=congrArg List.length Ld;simpa using this
   unfold Oper.wp;have hex:(execOp a.eval o).run P w= .ok (.value (.int .i64 (l.length:Nat))) w:=by
     simp[execOp,ho,hc,ha,ht,Nd,resolve,invoke,builtin,Builtin.len_,run_underlying hu,MapKept.run_getObj_map hb,Result.andThen,goInt,hlen]
   rw[hex];exact ⟨_,F,M,h,hr.put (.p (.int _ _)) o.dst⟩
def NA(k:Pd):List (Pd×Pd)->List (Pd×Pd)
 | []=>[]
 | (k',v')::r=>if Pd.same k k'=some true then r else (k',v')::NA k r
theorem VR{kk:KK}{key:Pd}{d:TypeDesc}(hd:match kk with | .int x=>d= .int x | .str=>d= .string)(hf:kk.fit key=true):
   ∀(es:List MapEntry) (l:List (Pd×Pd)) (n:Nat),es.map (λ e=>(e.key,e.val))=l.map (λ p=>(p.1.val,p.2.val))->QS key l->
     (∃v i,Instr.findNow d key.val es n=some (some (n+i,v))/\(es.eraseIdx i).map (λ e=>(e.key,e.val))=(NA key l).map (λ p=>(p.1.val,p.2.val)))∨
     (Instr.findNow d key.val es n=some none/\NA key l=l)
 | [],[],n,_,_=> .inr ⟨rfl,rfl⟩
 | [],_::_,n,h,_=>by simp at h
 | _::_,[],n,h,_=>by simp at h
 | e::es,(q,v)::l,n,h,hm=>by
   simp only[AD,List.cons.injEq,Prod.mk.injEq] at h;obtain ⟨⟨h1,h2⟩,h3⟩:=h;unfold QS Lz at hm;cases hs:Pd.same key q with
   | none=>rw[hs] at hm;simp at hm
   | some b=>
     have hn:=Pd.S5 hd hf hs;cases b with
     | true=>exact .inl ⟨e.val,0,by simp[Instr.findNow,h1,hn],by simp[NA,hs,h3]⟩
     | false=>
       rw[hs] at hm;rcases VR hd hf es l (n+1) h3 hm with ⟨v',i,g1,g2⟩ | ⟨g1,g2⟩
       . refine .inl ⟨v',i+1,?_,by simp[NA,hs,h1,h2,g2]⟩;simp only[Instr.findNow,h1,hn,g1];congr 3;omega
       . exact .inr ⟨by simp only[Instr.findNow,h1,hn,g1],by simp[NA,hs,g2]⟩
theorem RA{c:Call}{x y:Operand}{id t t2:Nat}{l:List (Pd×Pd)}{kk:KK}{z key:Pd}(ho:o.op= .call c)(hc:c.callee= .builtin .delete)(ha:c.args=#[x,y])(ht:c.argTypes=#[t,t2])
   (hm:mapOf P t=some (kk,z)) (hx:ev st x= .mv id) (hy:ev st y= .p key) (hf:kk.fit key=true) (hg:get st.hp id=some (.mp l)) (NL:QS key l)
   (h:O P true ops rest k (({st with hp:=Cw st.hp id (.mp (NA key l))}:St).put o.dst (.Dg []))):Af P true ops rest k o st .fail:=by
 refine IF λ ct a w F M Q hr=>?_;obtain ⟨kt,e,d,ii,zv,hu,hk,hd,EP,hz,rfl,hzf⟩:=K4 hm;obtain ⟨LC,⟨es,clock,hb,Ld⟩,OW⟩:=hr.heap.obj id _ hg;have hv:=Ci hr x;rw[hx] at hv;generalize Nd:a.eval x=v at hv;have RX:=Ci hr y;rw[hy] at RX;generalize hvy:a.eval y=v2 at RX;have Cs:∀j,get (Cw st.hp id (.mp (NA key l))) j=if j=id then some (.mp (NA key l)) else get st.hp j:=CM _ _ _
 have Hs:=Dw Cs hg rfl;cases hv with
 | mv _ hs=>
   cases RX with
   | p hi=>
     have hvi:v2=key.val:=by cases hi<;>first | rfl | (cases kk<;>simp[KK.fit] at hf)
     subst hvi;have hck:∀b,(Instr.checkKey b 10000 kt key.val).run P w= .ok () w:=λ b=>MapKept.run_checkKey hk (QX hd hf) b 9999;have Aqs:∀p∈NA key l,p.2.flat=true:=by
       clear Cs Hs Ld hg NL h
       induction l with
       | nil=>intro p hp;simp[NA] at hp
       | cons q r ih=>
         intro p hp;simp only[NA] at hp;split at hp
         . exact OW p (by simp[hp])
         . rcases AF.1 hp with rfl | hp
           . exact OW _ (by simp)
           . exact ih (λ p hp=>OW p (by simp[hp])) p hp
     have hch:∀(NM:Array MapEntry),NM.toList.map (λ e=>(e.key,e.val))=(NA key l).map (λ p=>(p.1.val,p.2.val))->
         Rel ct {st with hp:=Cw st.hp id (.mp (NA key l))} a {w with heap:=w.heap.setIfInBounds (M id).Dt (.map NM clock)} F M:=by
       intro NM h1;have EZ:=MapKept.heap_set (o':= .map NM clock) hb;refine hr.change (M':=M) Cs (λ _ _=>rfl) (by rw[Hs];exact CN.refl _ _) rfl rfl rfl (by simp) (λ b Yk Dl=>EZ.2 b (Dl _ hg)) ⟨LC,⟨NM,clock,EZ.1,h1⟩,Aqs⟩ (λ b Yk=> .inl ⟨_,hg,Yk⟩)
     unfold Oper.wp;rcases VR hd hf es.toList l 0 Ld NL with ⟨v',i,g1,g2⟩ | ⟨g1,g2⟩
     . have hex:(execOp a.eval o).run P w= .ok (.value (.tuple #[])) {w with heap:=w.heap.setIfInBounds (M id).Dt (.map (es.eraseIdxIfInBounds i) clock)}:=by
         simp[execOp,ho,hc,ha,ht,Nd,hvy,resolve,invoke,builtin,Builtin.delete_,run_underlying hu,MapKept.run_getObj_map hb,hck,MapKept.run_findKey hk g1,Result.andThen,MapKept.run_setObj_map _ hb]
       rw[hex];exact ⟨_,F,M,h,(hch _ (by rw[Array.toList_eraseIdxIfInBounds];exact g2)).put (.Dg [] #[] rfl (λ i d hd=>by simp at hd)) o.dst⟩
     . have hex:(execOp a.eval o).run P w= .ok (.value (.tuple #[])) {w with heap:=w.heap.setIfInBounds (M id).Dt (.map es clock)}:=by
         simp[execOp,ho,hc,ha,ht,Nd,hvy,resolve,invoke,builtin,Builtin.delete_,run_underlying hu,MapKept.run_getObj_map hb,hck,MapKept.run_findKey hk g1,Result.andThen,MapKept.run_setObj_map _ hb]
       rw[hex];exact ⟨_,F,M,h,(hch _ (by rw[g2];exact Ld)).put (.Dg [] #[] rfl (λ i d hd=>by simp at hd)) o.dst⟩
end
def Kb(m:List (List UInt8×Int)):List (Pd×Pd):=m.map λ p=>(.str p.1,.int .i64 p.2)
def DN(m:List (List UInt8×Int))(k:List UInt8):Option Int:=(m.find? λ p=>p.1==k).map (·.2)
def HS(m:List (List UInt8×Int))(k:List UInt8)(v:Int):List (List UInt8×Int):=match m with
 | []=>[(k,v)]
 | p::r=>if p.1=k then (k,v)::r else p::HS r k v
theorem Xj(k:List UInt8):∀m,Lz (.str k) (Kb m)=some ((DN m k).map (.int .i64))
 | []=>rfl
 | p::r=>by
   have ih:=Xj k r;simp only[Kb,AD,Lz,Pd.same,DN,List.find?_cons] at ih ⊢;by_cases h:p.1=k
   . simp[h]
   . have h1:(k==p.1)=false:=by simpa using Ne.symm h
     have h2:(p.1==k)=false:=by simpa using h
     rw[h1,h2];exact ih
theorem DJ(k:List UInt8)(m):QS (.str k) (Kb m):=by unfold QS;rw[Xj];rfl
theorem DY(k:List UInt8)(m):Tr (.str k) (Kb m)=(DN m k).map (.int .i64):=by unfold Tr;rw[Xj];rfl
theorem Tq(k:List UInt8)(v:Int):∀m,Kq (.str k) (.int .i64 v) (Kb m)=Kb (HS m k v)
 | []=>rfl
 | p::r=>by
   have ih:=Tq k v r;simp only[Kb] at ih;simp only[Kb,AD,Kq,Pd.same,HS];by_cases h:p.1=k
   . simp[h]
   . have h1:(k==p.1)=false:=by simpa using Ne.symm h
     simp[h1,h,ih]
theorem Aab(m)(k:List UInt8)(z:Int)(ok:Bool):EL (.int .i64 z) ok ((DN m k).map (.int .i64))=if ok then .Dg [.p (.int .i64 ((DN m k).getD z)),.p (.bool (DN m k).isSome)] else .p (.int .i64 ((DN m k).getD z)):=by
 unfold EL;cases DN m k<;>rfl
theorem Ac8(m):(Kb m).length=m.length:=by simp[Kb]
theorem Xg:Kb []=[]:=rfl
def Xi(m:List (Int×Bool)):List (Pd×Pd):=m.map λ p=>(.int .i64 p.1,.bool p.2)
def IU(m:List (Int×Bool))(k:Int):Option Bool:=(m.find? λ p=>p.1==k).map (·.2)
def QJ(m:List (Int×Bool))(k:Int)(v:Bool):List (Int×Bool):=match m with
 | []=>[(k,v)]
 | p::r=>if p.1=k then (k,v)::r else p::QJ r k v
def LQ(m:List (Int×Bool))(k:Int):List (Int×Bool):=match m with
 | []=>[]
 | p::r=>if p.1=k then r else p::LQ r k
theorem Xk(k:Int):∀m,Lz (.int .i64 k) (Xi m)=some ((IU m k).map .bool)
 | []=>rfl
 | p::r=>by
   have ih:=Xk k r;simp only[Xi,AD,Lz,Pd.same,IU,List.find?_cons] at ih ⊢;by_cases h:p.1=k
   . simp[h]
   . have h1:(k==p.1)=false:=by simpa using Ne.symm h
     have h2:(p.1==k)=false:=by simpa using h
     simp only[h1,h2,AM];exact ih
theorem Ts(k:Int)(m):QS (.int .i64 k) (Xi m):=by unfold QS;rw[Xk];rfl
theorem Ajz(k:Int)(m):Tr (.int .i64 k) (Xi m)=(IU m k).map .bool:=by unfold Tr;rw[Xk];rfl
theorem Aa6(k:Int)(v:Bool):∀m,Kq (.int .i64 k) (.bool v) (Xi m)=Xi (QJ m k v)
 | []=>rfl
 | p::r=>by
   have ih:=Aa6 k v r;simp only[Xi] at ih;simp only[Xi,AD,Kq,Pd.same,QJ];by_cases h:p.1=k
   . simp[h]
   . have h1:(k==p.1)=false:=by simpa using Ne.symm h
     simp[h1,h,ih]
theorem Aa8(k:Int):∀m,NA (.int .i64 k) (Xi m)=Xi (LQ m k)
 | []=>rfl
 | p::r=>by
   have ih:=Aa8 k r;simp only[Xi] at ih;simp only[Xi,AD,NA,Pd.same,LQ];by_cases h:p.1=k
   . simp[h]
   . have h1:(k==p.1)=false:=by simpa using Ne.symm h
     simp[h1,h,ih]
theorem Ak3(m)(k:Int)(z:Bool)(ok:Bool):EL (.bool z) ok ((IU m k).map .bool)=if ok then .Dg [.p (.bool ((IU m k).getD z)),.p (.bool (IU m k).isSome)] else .p (.bool ((IU m k).getD z)):=by
 unfold EL;cases IU m k<;>rfl
theorem Ac9(m):(Xi m).length=m.length:=by simp[Xi]
theorem Xh:Xi []=[]:=rfl
attribute [go_sem] K7 J3 KK.fit Pd.flat DJ DY Tq Aab Ac8 Ts Ajz Aa6 Aa8 Ak3 Ac9
end Go.Am
namespace Go.Am
open Go
def Aoi(r:D):Prop:=r= .Dg []∨∃y,r= .p y
theorem Aoi.dr{F:Nat->Prop}{w:World}{M M':Nat->Mb}{s s':Nat->Option Sg}{r:D}{v:Value}(h:Aoi r)(hd:DR F w M s r v):DR F w M' s' r v:=by
 rcases h with rfl | ⟨y,rfl⟩
 . cases hd with | Dg _ vs hl hc=>exact .Dg [] vs hl (λ i c hi=>by simp at hi)
 . cases hd with | p hx=>exact .p hx
theorem UB{P:Program}{f:FuncId}{ps:List Pd}{t e:TypeId}{sz k i n:Nat}{rows:List (List (List Pd))}{es:List (List Pd)}{R:Hp->D->Prop}{R':List (List Pd)->D->Prop}
   (hi:rows[i]?=some es) (hn:n=es.length) (hc:BZ P f (.ref 1000000 0 n n::ps.map D.p) [(1000000,.arr e sz es)] R)
   (hR:∀h' r,R h' r->∃NM,h'=[(1000000,.arr e sz NM)]/\NM.length=n/\Aoi r/\R' NM r):
   BZ P f (.nr 1000000 i n k::ps.map D.p) [(1000000,.Dj t e sz k rows none)] λ h' r=>∃NM,h'=[(1000000,.Dj t e sz k (rows.set i NM) none)]/\NM.length=n/\R' NM r:=by
 subst hn;intro vs w F M LP OX Sj hd;have hg:get [(1000000,AO.Dj t e sz k rows none)] 1000000=some (.Dj t e sz k rows none):=rfl;have hN:H6 F w (M 1000000) t e sz rows none:=LP.obj 1000000 _ hg;have Ct:i<rows.length:=(An.1 hi).1;obtain ⟨bc,r6⟩:∃bc,(M 1000000).xs[i]?=some bc:=⟨_,Ax (by rw[hN.xl];exact Ct)⟩;obtain ⟨M1,hM1⟩:∃M1:Nat->Mb,M1=λ _=>⟨bc.1,bc.2,[]⟩:=⟨_,rfl⟩;have Af8:∀j,M1 j=⟨bc.1,bc.2,[]⟩:=λ j=>by rw[hM1]
 have Av2:UA F w ⟨bc.1,bc.2,[]⟩ e sz es:=hN.rows i es bc hi r6 (by simp);have Kx:∀{o:AO} {j:Nat} {o2:AO},get [(1000000,o)] j=some o2->j=1000000/\o2=o:=λ {o j o2} h=>by
   simp only[Cp] at h;split at h
   . rename_i e1;cases h;exact ⟨e1.symm,rfl⟩
   . cases h
 have Al5:HR F w M1 [(1000000,.arr e sz es)]:=by
   refine ⟨λ j o hj=>?_,λ j o j' o' b hj Hc _ _=>?_⟩
   . obtain ⟨rfl,rfl⟩:=Kx hj;rw[Af8];exact Av2
   . rw[(Kx hj).1,(Kx Hc).1]
 have hd0:DR F w M (sg [(1000000,.Dj t e sz k rows none)]) (.nr 1000000 i es.length k) (vs.toList.getD 0 undef):=hd.2 0 _ rfl;have V7:IW F w M1 (sg [(1000000,.arr e sz es)]) (.ref 1000000 0 es.length es.length::ps.map D.p) vs.toList:=by
   refine ⟨by have:=hd.1;simpa using this,λ j d hj=>?_⟩;cases j with
   | zero=>
     simp only[AK,Al] at hj;subst hj;generalize vs.toList.getD 0 undef=v at hd0;cases hd0 with
     | nr _ _ _ _ OV m k3 _ Mp hN2 hv hl=>
       have p8:sg [(1000000,AO.Dj t e sz k rows none)] 1000000=some (.Dj sz rows.length k):=rfl;rw[Mp] at p8;simp only[Al,Sg.Dj.injEq] at p8;obtain ⟨_,_,rfl⟩:=p8;obtain ⟨bc2,g1,g2,ad,g3,g4⟩:=hl rfl;rw[r6] at g1;cases g1;exact .ref 1000000 0 _ _ sz es.length _ rfl (Ai _) ⟨_,_,_,g3⟩ (λ _=>⟨ad,bc.2,g3,by omega,g2,by rw[Af8];simp,by rw[Af8];simpa using g4⟩)
   | succ j=>
     have h2:=hd.2 (j+1) d (by simpa using hj);simp only[List.getElem?_cons_succ,AQ] at hj;cases hp:ps[j]? with
     | none=>rw[hp] at hj;cases hj
     | some p=>
       rw[hp] at hj;simp only[Bn,Al] at hj;subst hj;cases h2 with | p hx=>exact .p hx
 have Bbf:∀id,sg [(1000000,AO.arr e sz es)] id≠none->base<=id:=by
   intro id hs;refine Sj id ?_;unfold sg at hs ⊢;simp only[Cp] at hs ⊢;split
   . simp
   . rename_i h1;rw[if_neg h1] at hs;exact hs
 refine (hc vs w F M1 Al5 OX Bbf V7).mono λ ed w' hh=>?_;obtain ⟨v,h',r,F',M',he,hr,Vd,TU,hk⟩:=hh;obtain ⟨NM,rfl,hlen,hp,hR2⟩:=hR h' r hr;have IB:M' 1000000=⟨bc.1,bc.2,[]⟩:=by
   obtain ⟨n',g1,g2,g3⟩:=hk.VB.2.1 1000000 sz es.length rfl;have:n'=NM.length:=by
     have:sg [(1000000,AO.arr e sz NM)] 1000000=some (.arr sz NM.length):=rfl;rw[this] at g1;simp only[Al,Sg.arr.injEq] at g1;exact g1.2.symm
   rw[g3 (by omega)];exact Af8 _
 have Aye:UA F' w' ⟨bc.1,bc.2,[]⟩ e sz NM:=by have:=Vd.obj 1000000 _ rfl;rw[IB] at this;exact this
 have Att:∀b,EF M1 [(1000000,AO.arr e sz es)] b↔bc.2≠0/\b=bc.1:=by
   intro b;constructor
   . rintro ⟨j,o,h1,h2⟩;obtain ⟨rfl,rfl⟩:=Kx h1;rw[Af8] at h2;exact h2
   . intro h;exact ⟨1000000,_,rfl,by rw[Af8];exact h⟩
 have Aww:∀b,EF M [(1000000,AO.Dj t e sz k rows none)] b↔Dz (M 1000000) b:=by
   intro b;constructor
   . rintro ⟨j,o,h1,h2⟩;obtain ⟨rfl,rfl⟩:=Kx h1;exact h2
   . intro h;exact ⟨1000000,_,rfl,h⟩
 have Awv:∀b,EF M [(1000000,AO.Dj t e sz k (rows.set i NM) none)] b↔Dz (M 1000000) b:=by
   intro b;constructor
   . rintro ⟨j,o,h1,h2⟩;obtain ⟨rfl,rfl⟩:=Kx h1;exact h2
   . intro h;exact ⟨1000000,_,rfl,h⟩
 have other:∀b,Dz (M 1000000) b->¬(bc.2≠0/\b=bc.1)->w'.heap[b]?=w.heap[b]?/\¬F' b:=by
   intro b h1 h2;have Sn:b<w.heap.size:=hN.lt h1;refine ⟨hk.LR b Sn (λ h3=>h2 ((Att b).1 h3)),λ h3=>?_⟩;rcases hk.Fn b h3 with h4 | h4 | h4
   all_goals first
     | exact hN.Jj h1 h4
     | exact h2 ((Att b).1 h4)
     | exact absurd Sn (Nat.not_lt.2 h4)
 have Aj5:∀{j r'},(rows.set i NM)[j]?=some r'->(i=j/\r'=NM)∨(i≠j/\rows[j]?=some r'):=by
   intro j r' h;by_cases e:i=j
   . subst e;rw[BE Ct] at h;exact .inl ⟨rfl,(Ac h).symm⟩
   . rw[List.getElem?_set_ne e] at h;exact .inr ⟨e,h⟩
 have hN':H6 F' w' (M 1000000) t e sz (rows.set i NM) none:=by
   refine ⟨hN.pos,by simpa using hN.xl,by simpa using hN.le,hN.max,λ Ju=>?_,λ j r' b' h1 h2 h3=>?_,λ j b' h1 _=>(by cases h1),hN.dis,hN.out⟩
   . obtain ⟨g1,row,g2,g3,g4⟩:=hN.outer Ju;obtain ⟨g5,g6⟩:=other (M 1000000).Dt (.inl ⟨Ju,rfl⟩) (λ h=>hN.out i bc r6 h.1 Ju h.2.symm);refine ⟨g6,row,by rw[g5];exact g2,g3,λ j r' b' h1 h2 h3=>?_⟩;rcases Aj5 h1 with ⟨rfl,rfl⟩ | ⟨_,h4⟩
     . rw[hlen];exact g4 i es b' hi h2 (by simp)
     . exact g4 j r' b' h4 h2 (by simp)
   . rcases Aj5 h1 with ⟨rfl,rfl⟩ | ⟨Dl,h4⟩
     . rw[r6] at h2;cases h2;exact Aye
     . refine (hN.rows j r' b' h4 h2 (by simp)).keep (λ b hb=>hk.LR b (OX b hb) (λ h=>Al5.Jj h hb)) hk.F0 (λ hcc=>other b'.1 (.inr ⟨j,b',h2,hcc,rfl⟩) (λ h=>hN.dis i j bc b' r6 h2 Dl h.1 hcc h.2.symm))
 refine ⟨v,_,r,F',M,he,⟨NM,rfl,hlen,hR2⟩,⟨λ j o hj=>?_,λ j o j' o' b hj Hc _ _=>?_⟩,hp.dr TU,?_⟩
 . obtain ⟨rfl,rfl⟩:=Kx hj;exact hN'
 . rw[(Kx hj).1,(Kx Hc).1]
 . have LW:∀b,EF M1 [(1000000,AO.arr e sz es)] b->EF M [(1000000,AO.Dj t e sz k rows none)] b:=λ b hb=>(Aww b).2 (.inr ⟨i,bc,r6,(Att b).1 hb⟩);refine ⟨hk.os,hk.tape,hk.output,hk.size,λ b h1 h2=>hk.LR b h1 (λ h3=>h2 (LW b h3)),hk.F0,λ b hb=>?_,hk.Fl,λ b hb=> .inl ((Aww b).2 ((Awv b).1 hb)),?_,Sj⟩
   . rcases hk.Fn b hb with h4 | h4 | h4
     . exact .inl h4
     . exact .inr (.inl (LW b h4))
     . exact .inr (.inr h4)
   . have:sg [(1000000,AO.Dj t e sz k (rows.set i NM) none)]=sg [(1000000,AO.Dj t e sz k rows none)]:=by
       funext j
       unfold sg;simp only[Cp];split<;>simp[AO.sg]
     show CN M M (sg [(1000000,AO.Dj t e sz k rows none)]) (sg [(1000000,AO.Dj t e sz k (rows.set i NM) none)])
     rw[this];exact CN.refl _ _
end Go.Am
namespace Go.Am
open Go
section
variable {P:Program} {c:Ctx} {st:St} {a:Act} {w:World} {F:Nat->Prop} {M:Nat->Mb}
theorem Rel.Atx(hr:Rel c st a w F M){q cap sz l:Nat}{vs:Array Value}{e e2:TypeId}{w':World}(hn:get st.hp q=none)
   (hw:w'.heap=(w.alloc (.cells vs e)).heap) (hos:w'.os=w.os) (Mn:w'.tape=w.tape) (Ow:w'.output=w.output)
   (Em:0<sz) (hc:l<=cap) (hm:cap<=maxLen) (hv:vs.size=cap) (hp:∀j,j<l->∃ad,vs.getD j undef= .slice ad 0 0):
   Rel c {st with hp:=(q,.Dj e e2 sz 0 (List.replicate l []) none)::st.hp} a w' F (Fh M q ⟨w.heap.size,cap,List.replicate l (0,0)⟩)/\
   DR F w' (Fh M q ⟨w.heap.size,cap,List.replicate l (0,0)⟩) (sg ((q,.Dj e e2 sz 0 (List.replicate l []) none)::st.hp)) (.Di q l) (.slice (some ⟨w.heap.size,0,none⟩) l cap):=by
 have Cs:=JQ st.hp q (.Dj e e2 sz 0 (List.replicate l []) none);have hM:∀j,j≠q->Fh M q ⟨w.heap.size,cap,List.replicate l (0,0)⟩ j=M j:=λ j hj=>by simp[Fh,hj]
 have IB:Fh M q ⟨w.heap.size,cap,List.replicate l (0,0)⟩ q=⟨w.heap.size,cap,List.replicate l (0,0)⟩:=by simp[Fh]
 have G5:=FV Cs hM hn;have hold:∀b,b<w.heap.size->w'.heap[b]?=w.heap[b]?:=λ b hb=>by rw[hw];exact alloc_old w _ b hb
 have hs:sg ((q,.Dj e e2 sz 0 (List.replicate l []) none)::st.hp) q=some (.Dj sz l 0):=by rw[C5 Cs];simp[AO.sg]
 have hx:∀(i:Nat) bc,(List.replicate l ((0,0):Nat×Nat))[i]?=some bc->bc=(0,0):=λ i bc h=>by
   rw[Bb] at h;split at h<;>cases h;rfl
 have hrw:∀(i:Nat) r,(List.replicate l ([]:List (List Pd)))[i]?=some r->r=[]/\i<l:=λ i r h=>by
   rw[Bb] at h;split at h<;>cases h;rename_i h1;exact ⟨rfl,h1⟩
 have CI:∀b,Dz ⟨w.heap.size,cap,List.replicate l (0,0)⟩ b->b=w.heap.size:=λ b h=>by
   rcases h with ⟨_,h⟩ | ⟨i,bc,h1,h2,_⟩
   . exact h
   . rw[hx i bc h1] at h2;exact (h2 rfl).elim
 refine ⟨hr.change Cs hM G5 hos Mn Ow (by rw[hw];simp) (λ b hb _=>hold b hb) ?_ (λ b hb=> .inr (by rw[IB] at hb;rw[CI b hb];exact Ai _)),?_⟩
 . rw[IB];refine ⟨Em,by simp,by simpa using hc,hm,λ _=>⟨λ hF=>Nat.lt_irrefl _ (hr.keep.Fl _ hF),vs,by rw[hw];exact heap_alloc_new w _,hv,λ i r bc h1 h2 _=>?_⟩,λ i r bc h1 h2 _=>?_,λ i bc h1 _=>(by cases h1),λ i j bi bj h1 _ _ h2 _=>?_,λ i bi h1 h2 _=>?_⟩
   . obtain ⟨rfl,Q7⟩:=hrw i r h1;obtain rfl:=hx i bc h2;obtain ⟨ad,h3⟩:=hp i Q7;exact ⟨ad,h3,.inl rfl⟩
   . obtain ⟨rfl,Q7⟩:=hrw i r h1;obtain rfl:=hx i bc h2;exact ⟨Em,by simp,by simp,by simp,λ h=>(h rfl).elim⟩
   . rw[hx i bi h1] at h2;exact (h2 rfl).elim
   . rw[hx i bi h1] at h2;exact (h2 rfl).elim
 . exact .Di q l sz l 0 _ hs (Ai _) ⟨_,_,rfl,.inr ⟨_,rfl⟩⟩ (λ _=>⟨_,cap,rfl,by omega,hc,by simp[IB],.inr (by simp[IB])⟩)
theorem Rel.Y2(hr:Rel c st a w F M){q sz:Nat}{e e2:TypeId}(hn:get st.hp q=none)(Em:0<sz):
   Rel c {st with hp:=(q,.Dj e e2 sz 0 [] none)::st.hp} a w F (Fh M q ⟨0,0,[]⟩)/\∀ad,DR F w (Fh M q ⟨0,0,[]⟩) (sg ((q,.Dj e e2 sz 0 [] none)::st.hp)) (.Di q 0) (.slice ad 0 0):=by
 have Cs:=JQ st.hp q (.Dj e e2 sz 0 [] none);have hM:∀j,j≠q->Fh M q ⟨0,0,[]⟩ j=M j:=λ j hj=>by simp[Fh,hj]
 have IB:Fh M q ⟨0,0,[]⟩ q=⟨0,0,[]⟩:=by simp[Fh]
 have G5:=FV Cs hM hn;have LV:∀b,¬Dz ⟨0,0,[]⟩ b:=λ b h=>by
   rcases h with ⟨h,_⟩ | ⟨i,bc,h1,_⟩
   . exact h rfl
   . simp at h1
 refine ⟨hr.change Cs hM G5 rfl rfl rfl (Ai _) (λ b hb _=>rfl) ?_ (λ b h=>?_),λ ad=>?_⟩
 . rw[IB];exact ⟨Em,rfl,by simp,by simp,λ h=>(h rfl).elim,λ i r bc h=>by simp at h,λ i bc h=>(by cases h),λ i j bi bj h=>by simp at h,λ i bi h=>by simp at h⟩
 . rw[IB] at h;exact (LV b h).elim
 . exact .Di q 0 sz 0 0 _ (by rw[C5 Cs];simp[AO.sg]) (Ai _) ⟨_,_,rfl,.inl rfl⟩ (λ _=>⟨ad,0,rfl,by omega,by omega,by rw[IB],.inl rfl⟩)
def Tn(e:TypeId):Arz where
 sg:= .arr 1 1
 holds:=λ F w m=>¬F m.Dt/\m.cap=1/\∃ad,w.heap[m.Dt]?=some (.cells #[.slice ad 0 0] e (0,0))
 F8:=λ m b=>b=m.Dt
 keep:=λ h hw hF ho=>by
   obtain ⟨h1,h2,ad,h3⟩:=h;obtain ⟨h4,h5⟩:=ho _ rfl;exact ⟨h5,h2,ad,by rw[h4];exact h3⟩
 Jj:=λ h hb=>by cases hb;exact h.1
 lt:=λ h hb=>by
   cases hb;obtain ⟨h1,h2,ad,h3⟩:=h;exact (Ba.1 h3).1
 Ar1:=λ h _ h2=>by
   obtain ⟨h1,h3,ad,h4⟩:=h;exact ⟨h1,h3,ad,by rw[h2 _ h1];exact h4⟩
theorem Rel.Apz(hr:Rel c st a w F M){q:Nat}{e:TypeId}{ad:Option Addr}(hn:get st.hp q=none):
   Rel c {st with hp:=(q,.Fi (Tn e))::st.hp} a (w.alloc (.cells #[.slice ad 0 0] e)) F (Fh M q ⟨w.heap.size,1,[]⟩)/\
   DR F (w.alloc (.cells #[.slice ad 0 0] e)) (Fh M q ⟨w.heap.size,1,[]⟩) (sg ((q,.Fi (Tn e))::st.hp)) (.ref q 0 1 1) (.slice (some ⟨w.heap.size,0,none⟩) 1 1):=by
 have Cs:=JQ st.hp q (.Fi (Tn e));have hM:∀j,j≠q->Fh M q ⟨w.heap.size,1,[]⟩ j=M j:=λ j hj=>by simp[Fh,hj]
 have IB:Fh M q ⟨w.heap.size,1,[]⟩ q=⟨w.heap.size,1,[]⟩:=by simp[Fh]
 have G5:=FV Cs hM hn;refine ⟨hr.change Cs hM G5 rfl rfl rfl (by simp) (λ b hb _=>alloc_old w _ b hb) ?_ (λ b hb=> .inr (by have:b=_:=hb;rw[this,IB];exact Ai _)),?_⟩
 . rw[IB];exact ⟨λ hF=>Nat.lt_irrefl _ (hr.keep.Fl _ hF),rfl,ad,heap_alloc_new w _⟩
 . exact .ref q 0 1 1 1 1 _ (by rw[C5 Cs,if_pos rfl];rfl) (Ai _) ⟨_,_,_,rfl⟩ (λ _=>⟨_,1,rfl,by omega,by omega,by rw[IB],.inr (by rw[IB])⟩)
theorem Rel.Avk(hr:Rel c st a w F M){id q2 t t2 ty e e2 e3:TypeId}{u2:TypeDesc}{i:TypeInfo}{z:Value}{sz k N:Nat}{rows:List (List (List Pd))}{vs vx:Value}
   (hg:get st.hp id=some (.Dj e e2 sz k rows none)) (hN0:N=rows.length) (hv:DR F w M (sg st.hp) (.Di id N) vs) (hq:get st.hp q2=some (.Fi (Tn e3))) (hx:DR F w M (sg st.hp) (.ref q2 0 1 1) vx)
   (Fq:P.underlying t=some (.slice e)) (LM:P.underlying t2=some u2) (Q4:∀k,u2≠ .int k) (hi:P.info? e=some i) (hz:i.zero=some z) (Em:i.size=1) (hzs:z.cells.size=1)
   (hle:N+1<=140737488355328) (hby:(N+1)*i.bytes<=140737488355328):
   ∃v w' M',Rel c {st with hp:=Cw st.hp id (.Dj e e2 sz (k+1) (rows++[[]]) none)} a w' F M'/\DR F w' M' (sg (Cw st.hp id (.Dj e e2 sz (k+1) (rows++[[]]) none))) (.Di id (N+1)) v/\
     (Builtin.append_ #[t,t2] ty #[vs,vx]).run P w= .ok v w':=by
 subst hN0;have hn:H6 F w (M id) e e2 sz rows none:=hr.heap.obj id _ hg;obtain ⟨hqF,hqc,adn,hqh⟩:¬F (M q2).Dt/\(M q2).cap=1/\∃ad,w.heap[(M q2).Dt]?=some (.cells #[.slice ad 0 0] e3 (0,0)):=hr.heap.obj q2 _ hq;have Zp:q2≠id:=λ e=>by rw[e,hg] at hq;cases hq
 obtain ⟨cap,ad,rfl,h5,h6,h7,h8⟩:∃cap ad,vs= .slice ad rows.length cap/\0+rows.length<=rows.length/\rows.length<=cap/\0+cap=(M id).cap/\(cap=0∨ad=some ⟨(M id).Dt,0*1,none⟩):=by
   cases hv with
   | Di _ _ sz1 m1 k1 _ hs hN RX h2=>
     rw[CW hg] at hs;simp only[AO.sg,Al,Sg.Dj.injEq] at hs;obtain ⟨rfl,rfl,rfl⟩:=hs;obtain ⟨ad,cap,h3,h4⟩:=h2 rfl;exact ⟨cap,ad,h3,h4⟩
 simp only[A2] at h7;subst h7;have Nd:vx= .slice (some ⟨(M q2).Dt,0,none⟩) 1 1:=by
   cases hx with
   | ref _ _ _ _ sz1 n1 _ hs hN RX h2=>
     rw[CW hq] at hs;simp only[AO.sg,Tn,Al,Sg.arr.injEq] at hs;obtain ⟨rfl,rfl⟩:=hs;obtain ⟨ad2,cap2,rfl,g1,g2,g3,g4⟩:=h2 rfl;rw[A2,hqc] at g3;subst g3;rcases g4 with g4 | g4
     . cases g4
     . rw[g4]
 subst Nd;have Acj:∀w1:World,(Builtin.lenOf (.slice (some ⟨(M q2).Dt,0,none⟩) 1 1)).run P w1= .ok 1 w1:=λ w1=>by simp[Builtin.lenOf]
 have hf1:∀w1:World,w1.heap=w.heap->(Builtin.firstCells i.size 1 (.slice (some ⟨(M q2).Dt,0,none⟩) 1 1)).run P w1= .ok #[.slice adn 0 0] w1:=λ w1 h1=>by
   have:=run_firstCells_some (P:=P) w1 i.size 1 ⟨(M q2).Dt,0,none⟩ 1 1 [.slice adn 0 0] (by simp[Em]) (λ j v hj=>by
     cases j with
     | zero=>
       simp only[AK,Al] at hj;subst hj;rw[Addr.add_lit,cell_of_row w1 (M q2).Dt (0+0) #[.slice adn 0 0] e3 (0,0) (by rw[h1];exact hqh)];rfl
     | succ j=>simp at hj)
   simpa using this
 have Cs:∀j,get (Cw st.hp id (.Dj e e2 sz (k+1) (rows++[[]]) none)) j=if j=id then some (.Dj e e2 sz (k+1) (rows++[[]]) none) else get st.hp j:=CM _ _ _
 have Xw:sg (Cw st.hp id (.Dj e e2 sz (k+1) (rows++[[]]) none)) id=some (.Dj sz (rows.length+1) (k+1)):=by rw[C5 Cs];simp[AO.sg]
 have G5:∀mb,CN M (Fh M id mb) (sg st.hp) (sg (Cw st.hp id (.Dj e e2 sz (k+1) (rows++[[]]) none))):=by
   intro mb;have hM:∀j,j≠id->Fh M id mb j=M j:=λ j hj=>by simp[Fh,hj]
   refine ⟨λ j hj=>?_,λ j s2 n2 hj=>?_,λ j s2 n2 k2 hj=>?_⟩
   . have e2:j≠id:=λ e2=>by rw[e2,CW hg] at hj;simp[AO.sg] at hj
     rw[C5 Cs,if_neg e2,hM j e2];exact ⟨hj,rfl⟩
   . have e2:j≠id:=λ e2=>by rw[e2,CW hg] at hj;simp[AO.sg] at hj
     rw[C5 Cs,if_neg e2,hM j e2];exact ⟨n2,hj,Ai _,λ _=>rfl⟩
   . by_cases e2:j=id
     . subst e2;rw[CW hg] at hj;simp only[AO.sg,Al,Sg.Dj.injEq] at hj;obtain ⟨rfl,rfl,rfl⟩:=hj;exact ⟨_,_,Xw,by omega,by omega,λ h=>by omega,λ h=>by omega⟩
     . rw[C5 Cs,if_neg e2,hM j e2];exact ⟨n2,k2,hj,Ai _,Ai _,λ _=>⟨rfl,rfl⟩,λ _=>rfl⟩
 have HE:∀{j:Nat} {b:Nat×Nat},((M id).xs++[(0,0)])[j]?=some b->(M id).xs[j]?=some b∨(j=rows.length/\b=(0,0)):=by
   intro j b h;rw[AN] at h;split at h
   . exact .inl h
   . rename_i h1;rw[hn.xl] at h1 h;cases hj:j - rows.length with
     | zero=>
       rw[hj] at h;simp only[AK,Al] at h;exact .inr ⟨by omega,h.symm⟩
     | succ m=>rw[hj] at h;simp at h
 have hrs:∀{j:Nat} {r:List (List Pd)},(rows++[[]])[j]?=some r->(rows[j]?=some r/\j<rows.length)∨(j=rows.length/\r=[]):=by
   intro j r h;rw[AN] at h;split at h
   . rename_i h1;exact .inl ⟨h,h1⟩
   . rename_i h1;cases hj:j - rows.length with
     | zero=>
       rw[hj] at h;simp only[AK,Al] at h;exact .inr ⟨by omega,h.symm⟩
     | succ m=>rw[hj] at h;simp at h
 have mk:∀{w':World} {b cp:Nat},(∀b,F b->w'.heap[b]?=w.heap[b]?)->(∀(j:Nat) bc,(M id).xs[j]?=some bc->bc.2≠0->w'.heap[bc.1]?=w.heap[bc.1]?)->(∀(j:Nat) bc,(M id).xs[j]?=some bc->bc.2≠0->cp≠0->bc.1≠b)->
     rows.length+1<=cp->cp<=maxLen->¬F b->(∃row,w'.heap[b]?=some (.cells row e (0,0))/\row.size=cp/\(∀(j:Nat) r bc,rows[j]?=some r->(M id).xs[j]?=some bc->∃a,row.getD j undef= .slice a r.length bc.2/\(bc.2=0∨a=some ⟨bc.1,0,none⟩))/\∃a,row.getD rows.length undef= .slice a 0 0)->
     H6 F w' ⟨b,cp,(M id).xs++[(0,0)]⟩ e e2 sz (rows++[[]]) none:=by
   intro w' b cp hF hxo hxb hl hm LC ⟨row,g1,g2,g3,g4⟩;refine ⟨hn.pos,by simp[hn.xl],by simpa using hl,hm,λ _=>⟨LC,row,g1,g2,λ j r bc h1 h2 _=>?_⟩,λ j r bc h1 h2 _=>?_,λ j bc h1 _=>(by cases h1),λ j1 j2 b1 b2 h1 h2 h3 h4 h5=>?_,λ j bi h1 h2 h3=>?_⟩
   . rcases hrs h1 with ⟨h3,h4⟩ | ⟨rfl,rfl⟩
     . rcases HE h2 with h5 | ⟨rfl,_⟩
       . exact g3 j r bc h3 h5
       . omega
     . rcases HE h2 with h5 | ⟨_,rfl⟩
       . have:=(An.1 h5).1;rw[hn.xl] at this;omega
       . obtain ⟨a,h6⟩:=g4;exact ⟨a,h6,.inl rfl⟩
   . rcases hrs h1 with ⟨h3,h4⟩ | ⟨rfl,rfl⟩
     . rcases HE h2 with h5 | ⟨rfl,_⟩
       . exact (hn.rows j r bc h3 h5 (by simp)).keep hF (λ _ h=>h) (λ hc=>⟨hxo j bc h5 hc,hn.Jj (.inr ⟨j,bc,h5,hc,rfl⟩)⟩)
       . omega
     . rcases HE h2 with h5 | ⟨_,rfl⟩
       . have:=(An.1 h5).1;rw[hn.xl] at this;omega
       . exact ⟨hn.pos,by simp,by simp,by simp,λ h=>(h rfl).elim⟩
   . rcases HE h1 with h6 | ⟨_,rfl⟩
     . rcases HE h2 with h7 | ⟨_,rfl⟩
       . exact hn.dis j1 j2 b1 b2 h6 h7 h3 h4 h5
       . exact (h5 rfl).elim
     . exact (h4 rfl).elim
   . rcases HE h1 with h6 | ⟨_,rfl⟩
     . exact hxb j bi h6 h2 h3
     . exact (h2 rfl).elim
 have TU:∀{w':World} {b cp:Nat} {ad:Option Addr},rows.length+1<=cp->ad=some ⟨b,0,none⟩->DR F w' (Fh M id ⟨b,cp,(M id).xs++[(0,0)]⟩) (sg (Cw st.hp id (.Dj e e2 sz (k+1) (rows++[[]]) none))) (.Di id (rows.length+1)) (.slice ad (rows.length+1) cp):=by
   intro w' b cp ad h1 h2;exact .Di id _ sz (rows.length+1) (k+1) _ Xw (Ai _) ⟨_,_,rfl,.inr ⟨_,h2⟩⟩ (λ _=>⟨ad,cp,rfl,by omega,h1,by simp[Fh],.inr (by simp[Fh,h2])⟩)
 have J6:∀mb,Fh M id mb id=mb:=λ mb=>by simp[Fh]
 have N1:∀mb j,j≠id->Fh M id mb j=M j:=λ mb j hj=>by simp[Fh,hj]
 have Asu:∀{b' cp b:Nat},Dz ⟨b',cp,(M id).xs++[(0,0)]⟩ b->(cp≠0/\b=b')∨Dz (M id) b:=by
   intro b' cp b h;rcases h with ⟨h1,h2⟩ | ⟨j,bc,h1,h2,h3⟩
   . exact .inl ⟨h1,h2⟩
   . rcases HE h1 with h4 | ⟨_,rfl⟩
     . exact .inr (.inr ⟨j,bc,h4,h2,h3⟩)
     . exact (h2 rfl).elim
 by_cases Kw:rows.length+1<=(M id).cap
 . have V8:(M id).cap≠0:=by omega
   obtain rfl:=h8.resolve_left V8;obtain ⟨LC,row,CS,Hr,CP⟩:=hn.outer V8;have I5:=run_storeCells_at P (M id).Dt (rows.length*i.size) e [.slice adn 0 0] 0 row w CS (by simp[Em];omega) (by intro v hv;simp at hv;subst hv;rfl);simp only[Bj] at I5;have Dq:=H7 (P:=P) (w:=w) (ty:=ty) Fq LM Q4 hi (base:=some ⟨(M id).Dt,0*1,none⟩) (n:=rows.length) (Acj w) (hf1 w rfl) Kw
     (λ ad' e3=>by cases e3;rw[Addr.add_lit];simp only[Nat.zero_mul,A2];exact I5) (λ e3=>by cases e3)
   simp only[Em,Nat.mul_one,Ar,Az,A2] at Dq I5;have Ip:∀p,((row.toList.take rows.length++[Value.slice adn 0 0]++row.toList.drop (rows.length+1)).toArray).getD p undef=if p=rows.length then .slice adn 0 0 else row.getD p undef:=by
     intro p;have e1:row.toList.take rows.length++[Value.slice adn 0 0]++row.toList.drop (rows.length+1)=row.toList.set rows.length (.slice adn 0 0):=by
       rw[List.set_eq_take_append_cons_drop,if_pos (by simp;omega)];simp
     rw[e1];simp only[As,BU,BR];by_cases e2:rows.length=p
     . subst e2;have h9:rows.length<row.size:=by omega
       simp[h9]
     . rw[if_neg e2,if_neg (Bm e2)];simp
   have Aue:((row.toList.take rows.length++[Value.slice adn 0 0]++row.toList.drop (rows.length+1)).toArray).size=(M id).cap:=by
     simp;omega
   refine ⟨_,_,Fh M id ⟨(M id).Dt,(M id).cap,(M id).xs++[(0,0)]⟩,hr.change (w':=w.setRow (M id).Dt (row.toList.take rows.length++[Value.slice adn 0 0]++row.toList.drop (rows.length+1)).toArray) Cs (N1 _) (G5 _) rfl rfl rfl (by simp)
     (λ b hb Dl=>setRow_other w _ b _ (λ e=>Dl _ hg (.inl ⟨V8,e⟩))) ?_ (λ b hb=> .inl ⟨_,hg,?_⟩),TU Kw rfl,Dq⟩
   . rw[J6];exact mk (λ b hb=>setRow_other w _ b _ (λ e=>LC (e ▸ hb))) (λ j bc h1 h2=>setRow_other w _ _ _ (hn.out j bc h1 h2 V8)) (λ j bc h1 h2 _=>hn.out j bc h1 h2 V8) Kw hn.max LC
       ⟨_,setRow_heap w _ _ _ e (0,0) CS,Aue,λ j r bc h1 h2=>by
         obtain ⟨a,h3,h4⟩:=CP j r bc h1 h2 (by simp);have:=(An.1 h1).1;exact ⟨a,by rw[Ip,if_neg (by omega)];exact h3,h4⟩,adn,by rw[Ip,if_pos rfl]⟩
   . rw[J6] at hb;rcases Asu hb with ⟨_,h1⟩ | h1
     . exact .inl ⟨V8,h1⟩
     . exact h1
 ·
   obtain ⟨IQ,q0,UJ,ho3⟩:∃IQ:Array Value,IQ.size=rows.length/\(Builtin.firstCells i.size rows.length (.slice ad rows.length (M id).cap)).run P w.drew= .ok IQ w.drew/\
       ∀(j:Nat) r bc,rows[j]?=some r->(M id).xs[j]?=some bc->∃a,IQ.getD j undef= .slice a r.length bc.2/\(bc.2=0∨a=some ⟨bc.1,0,none⟩):=by
     by_cases h0:(M id).cap=0
     . have h1:rows=[]:=A1 (by omega);subst h1;refine ⟨#[],rfl,?_,λ j r bc h=>by simp at h⟩;cases ad<;>simp[Builtin.firstCells,loadCells,loadCellsFrom]
     . obtain rfl:=h8.resolve_left h0;obtain ⟨LC,row,CS,Hr,CP⟩:=hn.outer h0;have hl:(row.toList.take rows.length).length=rows.length:=by simp;omega
       refine ⟨(row.toList.take rows.length).toArray,by simpa using hl,?_,λ j r bc h1 h2=>?_⟩
       . refine run_firstCells_some (P:=P) w.drew i.size rows.length ⟨(M id).Dt,0*1,none⟩ rows.length (M id).cap _ (by rw[hl,Em];omega) (λ j v hj=>?_);rw[Addr.add_lit,cell_of_row w.drew (M id).Dt (0*1+j) row e (0,0) CS];rw[AH] at hj;split at hj
         . simpa using hj
         . cases hj
       . obtain ⟨a,h3,h4⟩:=CP j r bc h1 h2 (by simp);have:=(An.1 h1).1;refine ⟨a,?_,h4⟩;rw[<-h3];simp[As,AH,this]
   have Dq:=Hk (P:=P) (w:=w) (ty:=ty) Fq LM Q4 hi hz (base:=ad) (n:=rows.length) (cap:=(M id).cap) (Acj w) (hf1 w.drew rfl) UJ (by omega) hle hby;have Ra:=grownCap_ge w (rows.length+1) (M id).cap e;have hg2:=grownCap_le_maxLen w (rows.length+1) (M id).cap e (by unfold maxLen;omega);generalize hcp:grownCap w (rows.length+1) (M id).cap e=cp at Dq Ra hg2;have Ms:=heap_alloc_new w.drew (.cells (IQ++#[Value.slice adn 0 0]++Builtin.zeroCells z.cells (cp - (rows.length+1))) e);have hold:∀b,b<w.heap.size->(w.drew.alloc (.cells (IQ++#[Value.slice adn 0 0]++Builtin.zeroCells z.cells (cp - (rows.length+1))) e)).heap[b]?=w.heap[b]?:=λ b hb=>alloc_old w.drew _ b hb;refine ⟨_,_,Fh M id ⟨w.heap.size,cp,(M id).xs++[(0,0)]⟩,hr.change (w':=w.drew.alloc (.cells (IQ++#[Value.slice adn 0 0]++Builtin.zeroCells z.cells (cp - (rows.length+1))) e)) Cs (N1 _) (G5 _) rfl rfl rfl (by simp)
     (λ b hb _=>hold b hb) ?_ (λ b hb=>?_),TU Ra rfl,Dq⟩
   . rw[J6];refine mk (λ b hb=>hold b (hr.keep.Fl b hb)) (λ j bc h1 h2=>hold _ (hn.lt (.inr ⟨j,bc,h1,h2,rfl⟩))) (λ j bc h1 h2 _=>Nat.ne_of_lt (hn.lt (.inr ⟨j,bc,h1,h2,rfl⟩))) Ra hg2 (λ hF=>Nat.lt_irrefl _ (hr.keep.Fl _ hF))
       ⟨_,Ms,by simp[Hf,hzs,q0];omega,λ j r bc h1 h2=>?_,adn,?_⟩
     . obtain ⟨a,h3,h4⟩:=ho3 j r bc h1 h2;have:=(An.1 h1).1;refine ⟨a,?_,h4⟩;rw[<-h3];simp only[As];rw[Array.getElem?_append_left (by simp;omega),Array.getElem?_append_left (by omega)]
     . simp only[As];rw[Array.getElem?_append_left (by simp;omega),Array.getElem?_append_right (by omega),q0];simp
   . rw[J6] at hb;rcases Asu hb with ⟨_,h1⟩ | h1
     . exact .inr (by rw[h1];exact Ai _)
     . exact .inl ⟨_,hg,h1⟩
end
end Go.Am
namespace Go.Am
open Go
section
variable {P:Program} {ops rest:List Oper} {k:Kt} {st:St} {o:Oper}
theorem Awb(hc:De o.op=none)(h:mOp P st (o.dst.getD 0) o.op λ d h'=>O P true ops rest k (({st with hp:=h'}:St).put o.dst d)):Af P true ops rest k o st .fail:=by
 refine IF λ ct a w F M Q hr=>?_;obtain ⟨d,h',v,w',F',M',hk,Kd,hF,hd,Dq⟩:=Gm hr h;unfold Oper.wp;rcases Dq with Dq | ⟨rfl,Dq⟩
 . rw[Dq];exact ⟨_,F',M',hk,Kd.put hd o.dst⟩
 . rw[Dq];exact ⟨_,F',M',hk,Kd.put hd o.dst⟩
theorem Ap0{t e e2:TypeId}{x:Operand}{s1 b1 b2:Nat}{z1:D}(ho:o.op= .buildSlice t 1 #[(0,x)])(ht:CC P t=some ⟨s1,b1,.slice e,z1⟩)(hte:CC P e=some ⟨1,b2,.slice e2,.cl []⟩)
   (hx:ev st x= .cl []) (hq:get st.hp (o.dst.getD 0)=none)
   (h:O P true ops rest k (({st with hp:=(o.dst.getD 0,.arr e 1 [[.sl []]])::st.hp}:St).put o.dst (.ref (o.dst.getD 0) 0 1 1))):Af P true ops rest k o st .fail:=by
 refine Awb (by rw[ho];rfl) ?_;rw[ho];simp only[mOp,ht,hte,AD,Bk,hx];exact ⟨by omega,by omega,by simpa [GM,D.cells,D.one,HH,Kl,chunk,hq] using h⟩
theorem Aox{t e e2:TypeId}{l m:Operand}{n:Int}{k1 k2:IntKind}{s1 b1 b2 sz:Nat}{z1:D}(ho:o.op= .makeSlice t l m)(ht:CC P t=some ⟨s1,b1,.slice e,z1⟩)(hte:CC P e=some ⟨1,b2,.slice e2,.cl []⟩)(Em:0<sz)
   (hl:ev st l= .p (.int k1 n)) (hm:ev st m= .p (.int k2 n)) (hq:get st.hp (o.dst.getD 0)=none) (h0:0<=n) (hb:n*b2<=140737488355328) (hn:n<=140737488355328)
   (h:O P true ops rest k (({st with hp:=(o.dst.getD 0,.Dj e e2 sz 0 (List.replicate n.toNat []) none)::st.hp}:St).put o.dst (.Di (o.dst.getD 0) n.toNat))):Af P true ops rest k o st .fail:=by
 refine IF λ ct a w F M Q hr=>?_;obtain ⟨i1,u1,z1',NJ,Fq,hz1,e1⟩:=Cd ht;simp only[TI.mk.injEq] at e1;obtain rfl:=TK.of_slice e1.2.2.1.symm;obtain ⟨i,u,z,hi,hu,hz,e3⟩:=Cd hte;simp only[TI.mk.injEq] at e3;obtain ⟨e4,e5,e6,e7⟩:=e3;have hzv:=Pk e7.symm;subst hzv;have hl':=Ci hr l;have r4:=Ci hr m;rw[hl] at hl';rw[hm] at r4;generalize Q0:a.eval l=vl at hl';generalize hvm:a.eval m=vm at r4;cases hl' with | p hl'=>cases hl';cases r4 with | p r4=>
   cases r4;have Dq:=run_make (P:=P) w t e i _ Fq hi hz k1 k2 n n h0 (BP _) (by rw[Int.mul_comm,<-e5];omega) (by omega);rw[<-e4,Nat.mul_one] at Dq;obtain ⟨h2,h3⟩:=hr.Atx (q:=o.dst.getD 0) (cap:=n.toNat) (l:=n.toNat) (sz:=sz) (e:=e) (e2:=e2) (vs:=madeCells (Value.slice none 0 0).cells n.toNat) (w':=w.alloc (.cells (madeCells (Value.slice none 0 0).cells n.toNat) e))
     hq rfl rfl rfl rfl Em (Ai _) (by unfold maxLen;omega) (size_madeCells _ _) (λ j hj=>⟨none,by simp[madeCells,Value.cells,As,hj,Nat.mod_one]⟩)
   unfold Oper.wp;have hex:(execOp a.eval o).run P w= .ok (.value (.slice (some ⟨w.heap.size,0,none⟩) n.toNat n.toNat)) (w.alloc (.cells (madeCells (Value.slice none 0 0).cells n.toNat) e)):=by
     simp only[execOp,ho,Q0,hvm,Sem.run_bind,Dq,Result.andThen_ok,Sem.run_pure]
   rw[hex];exact ⟨_,F,_,h,h2.put h3 o.dst⟩
theorem range_one:Array.range 1=#[0]:=rfl
theorem Aoz{t e e2:TypeId}{x:Operand}{s1 b1 b2:Nat}{z1:D}(ho:o.op= .buildSlice t 1 #[(0,x)])(ht:CC P t=some ⟨s1,b1,.slice e,z1⟩)(hte:CC P e=some ⟨1,b2,.slice e2,.cl []⟩)
   (hx:ev st x= .cl []) (hq:get st.hp (o.dst.getD 0)=none)
   (h:O P true ops rest k (({st with hp:=(o.dst.getD 0,.Fi (Tn e))::st.hp}:St).put o.dst (.ref (o.dst.getD 0) 0 1 1))):Af P true ops rest k o st .fail:=by
 refine IF λ ct a w F M Q hr=>?_;obtain ⟨i1,u1,z1',NJ,Fq,hz1,e1⟩:=Cd ht;simp only[TI.mk.injEq] at e1;obtain rfl:=TK.of_slice e1.2.2.1.symm;obtain ⟨i,u,z,hi,hu,hz,e3⟩:=Cd hte;simp only[TI.mk.injEq] at e3;obtain ⟨e4,e5,e6,e7⟩:=e3;have hzv:=Pk e7.symm;subst hzv;have TM:=Ci hr x;rw[hx] at TM;generalize Nd:a.eval x=vx at TM;cases TM with
 | cl _ ad _ _=>
   obtain ⟨h2,h3⟩:=hr.Apz (q:=o.dst.getD 0) (e:=e) (ad:=ad) hq;unfold Oper.wp;have hex:(execOp a.eval o).run P w= .ok (.value (.slice (some ⟨w.heap.size,0,none⟩) 1 1)) (w.alloc (.cells #[.slice ad 0 0] e)):=by
     simp[execOp,ho,Instr.buildSlice,run_underlying Fq,Result.andThen,Dh hi,<-e4,Jc hi hz,Value.cells,Instr.fill,Nd,newRow,range_one,Nat.mod_one]
   rw[hex];exact ⟨_,F,_,h,h2.put h3 o.dst⟩
theorem Aic{c:Call}{x y:Operand}{id q2 t t2 e e2 e3 e4:TypeId}{s1 b1 b2 sz kk N s2 b4:Nat}{z1 z2:D}{rows:List (List (List Pd))}(ho:o.op= .call c)(hc:c.callee= .builtin .append)(ha:c.args=#[x,y])(hta:c.argTypes=#[t,t2])
   (ht:CC P t=some ⟨s1,b1,.slice e,z1⟩) (ht2:CC P t2=some ⟨s2,b4,.slice e4,z2⟩) (hte:CC P e=some ⟨1,b2,.slice e2,.cl []⟩)
   (hx:ev st x= .Di id N) (hg:get st.hp id=some (.Dj e e2 sz kk rows none)) (hN:N=rows.length) (hy:ev st y= .ref q2 0 1 1) (hq:get st.hp q2=some (.Fi (Tn e3)))
   (hle:N+1<=140737488355328) (hby:(N+1)*b2<=140737488355328)
   (h:O P true ops rest k (({st with hp:=Cw st.hp id (.Dj e e2 sz (kk+1) (rows++[[]]) none)}:St).put o.dst (.Di id (N+1)))):Af P true ops rest k o st .fail:=by
 refine IF λ ct a w F M Q hr=>?_;obtain ⟨i1,u1,z1',NJ,Fq,hz1,e1⟩:=Cd ht;simp only[TI.mk.injEq] at e1;obtain rfl:=TK.of_slice e1.2.2.1.symm;obtain ⟨i2,u2,z2',EP,LM,hz2,e21⟩:=Cd ht2;simp only[TI.mk.injEq] at e21;obtain rfl:=TK.of_slice e21.2.2.1.symm;obtain ⟨i,u,z,hi,hu,hz,e31⟩:=Cd hte;simp only[TI.mk.injEq] at e31;obtain ⟨e41,e5,e6,e7⟩:=e31;have hzv:=Pk e7.symm;subst hzv;have TM:=Ci hr x;rw[hx] at TM;have hy':=Ci hr y;rw[hy] at hy';obtain ⟨v,w',M',h1,h2,h3⟩:=hr.Avk (P:=P) (ty:=o.type) hg hN TM hq hy' Fq LM (λ k h=>by cases h) hi hz e41.symm rfl hle (by rw[<-e5];exact hby);unfold Oper.wp;have hex:(execOp a.eval o).run P w= .ok (.value v) w':=by
   simp[execOp,ho,hc,ha,hta,resolve,invoke,builtin,h3,Result.andThen]
 rw[hex];exact ⟨_,F,M',h,h1.put h2 o.dst⟩
end
theorem Wk.Apy{st:St}{id j q sz:Nat}{cs:List D}{ty:TypeId}(e e2:TypeId)(hb:get st.hp id=some (.box cs ty))(hj:cs[j]?=some (.cl []))(hq:get st.hp q=none)(hs:0<sz):
   Wk st ⟨st.env,(q,.Dj e e2 sz 0 [] none)::Cw st.hp id (.box (cs.set j (.Di q 0)) ty),st.n⟩:=by
 intro c a w F M hr;obtain ⟨GG,h1⟩:=hr.Y2 (e:=e) (e2:=e2) hq hs;have Dl:id≠q:=λ h=>by subst h;rw[hq] at hb;cases hb
 have Sq:get ((q,AO.Dj e e2 sz 0 [] none)::st.hp) id=some (.box cs ty):=by rw[Cp,if_neg (Bm Dl)];exact hb
 have Cs:∀i,get ((q,AO.Dj e e2 sz 0 [] none)::Cw st.hp id (.box (cs.set j (.Di q 0)) ty)) i=if i=id then some (.box (cs.set j (.Di q 0)) ty) else get ((q,AO.Dj e e2 sz 0 [] none)::st.hp) i:=by
   intro i;simp only[Cp,CM];by_cases e1:i=id
   . subst e1;simp[Bm Dl]
   . by_cases e2:q=i
     . subst e2;simp[e1]
     . simp[e1,e2]
 have Hs:=Dw Cs Sq rfl;have Akv:=GG.heap.obj id _ Sq;obtain ⟨LC,row,t,CS,Em,CP⟩:=Akv;refine ⟨F,Fh M q ⟨0,0,[]⟩,?_⟩;refine GG.change (st:=⟨st.env,(q,AO.Dj e e2 sz 0 [] none)::st.hp,st.n⟩) Cs (λ _ _=>rfl) (by rw[Hs];exact CN.refl _ _) rfl rfl rfl (Ai _) (λ _ _ _=>rfl) ?_ (λ b hb=> .inl ⟨_,Sq,hb⟩);refine ⟨LC,row,t,CS,by simpa using Em,λ i d hd=>?_,λ h5 h6 i hi=>?_⟩;rotate_left
 . refine CP.2 h5 ?_ i ?_
   . obtain ⟨x,hx,hn⟩:=A4.1 h6;rcases List.mem_or_eq_of_mem_set hx with h7 | rfl
     . exact A4.2 ⟨x,h7,hn⟩
     . cases hn
   . by_cases e1:i=j
     . subst e1;rw[BE (An.1 hj).1] at hi;cases hi
     . rwa[List.getElem?_set_ne (Bm e1)] at hi
 rw[Hs];by_cases e1:i=j
 . subst e1;have Ct:=(An.1 hj).1;rw[BE Ct] at hd;cases hd;have h2:=CP.1 i _ hj;refine ⟨?_,h2.2⟩;have h3:=h2.1;generalize row.getD i undef=v at h3;cases h3 with | cl _ ad _ _=>exact h1 ad
 . rw[List.getElem?_set_ne (Bm e1)] at hd;exact CP.1 i d hd
end Go.Am
namespace Go.Am
open Go
theorem BZ.seal{P:Program}{f:FuncId}{args:List D}{h:Hp}{R R':Hp->D->Prop}(hc:BZ P f args h R)(hR:∀h' r,R h' r->Fj h' r λ d h2=>Pc (h.map (·.1)) h2 d R'):BZ P f args h R':=by
 intro vs w F M LP OX Sj hd;refine (hc vs w F M LP OX Sj hd).mono ?_;rintro e w' ⟨v,h',r,F',M',rfl,hr,Vd,XC,hk⟩;have Aum:Rel ⟨w,F,EF M h,M,sg h⟩ ⟨[],h',0⟩ ⟨#[],[]⟩ w' F' M':=⟨λ t d ht=>by simp[get] at ht,rfl,rfl,Vd,hk⟩;obtain ⟨d,h2,F2,JF,Axk,_,_,Jt⟩:=OP r Aum XC (hR h' r hr);obtain ⟨h3,r2,M2,h4,h5,h6,h7⟩:=Of Axk rfl (λ _=>Iff.rfl) Jt JF;exact ⟨v,h3,r2,F2,M2,rfl,h4,h5,h6,h7⟩
end Go.Am
end
section
set_option linter.unusedVariables false
set_option linter.unusedSimpArgs false
namespace Go.Am
open Go
def Fx(sz n:Nat):Arz where
 sg:= .arr sz n
 holds:=λ _ _ _=>True
 F8:=λ _ _=>False
 keep:=λ _ _ _ _=>trivial
 Jj:=λ _ h=>h.elim
 lt:=λ _ h=>h.elim
 Ar1:=λ _ _ _=>trivial
section
variable {c:Ctx} {st:St} {a:Act} {w:World} {F:Nat->Prop} {M:Nat->Mb}
theorem Rel.move(hr:Rel c st a w F M){q q' k sz:Nat}{e:TypeId}{es:List (List Pd)}(hq:get st.hp q=some (.arr e sz es))(hk:k<=es.length)(Yh:get st.hp q'=none):
   Rel c ⟨st.env,(q',.arr e sz (es.take k))::Cw st.hp q (.Fi (Fx sz (es.length+1))),st.n⟩ a w F (Fh M q' (M q))/\
     ∀v,DR F w M (sg st.hp) (.ref q 0 k es.length) v->DR F w (Fh M q' (M q)) (sg ((q',.arr e sz (es.take k))::Cw st.hp q (.Fi (Fx sz (es.length+1))))) (.ref q' 0 k k) v:=by
 have Dl:q'≠q:=λ h=>by subst h;rw[hq] at Yh;cases Yh
 have Cs:∀i,get ((q',AO.arr e sz (es.take k))::Cw st.hp q (.Fi (Fx sz (es.length+1)))) i=if i=q' then some (.arr e sz (es.take k)) else if i=q then some (.Fi (Fx sz (es.length+1))) else get st.hp i:=by
   intro i;simp only[Cp,CM];by_cases e1:q'=i
   . subst e1;simp
   . rw[if_neg e1,if_neg (Bm e1)]
 have hMo:∀i,i≠q'->Fh M q' (M q) i=M i:=λ i hi=>by simp[Fh,hi]
 have IB:Fh M q' (M q) q'=M q:=by simp[Fh]
 have hlen:(es.take k).length=k:=by simp;omega
 have Aui:∀i,i≠q'->i≠q->sg ((q',AO.arr e sz (es.take k))::Cw st.hp q (.Fi (Fx sz (es.length+1)))) i=sg st.hp i:=λ i h1 h2=>by
   simp[sg,Cs,h1,h2]
 have U9:sg st.hp q=some (.arr sz es.length):=by simp[sg,hq,AO.sg]
 have Axh:sg ((q',AO.arr e sz (es.take k))::Cw st.hp q (.Fi (Fx sz (es.length+1)))) q=some (.arr sz (es.length+1)):=by
   unfold sg;rw[Cs,if_neg (Bm Dl),if_pos rfl];rfl
 have Q1:sg ((q',AO.arr e sz (es.take k))::Cw st.hp q (.Fi (Fx sz (es.length+1)))) q'=some (.arr sz k):=by
   unfold sg;rw[Cs,if_pos rfl];simp[AO.sg,hk]
 have Auk:sg st.hp q'=none:=by simp[sg,Yh]
 have HJ:CN M (Fh M q' (M q)) (sg st.hp) (sg ((q',AO.arr e sz (es.take k))::Cw st.hp q (.Fi (Fx sz (es.length+1))))):=by
   refine ⟨λ i hi=>?_,λ i s n hi=>?_,λ i s n kk hi=>?_⟩
   . have h1:i≠q':=λ h=>by rw[h,Auk] at hi;cases hi
     have h2:i≠q:=λ h=>by rw[h,U9] at hi;cases hi
     rw[Aui i h1 h2,hMo i h1];exact ⟨hi,rfl⟩
   . have h1:i≠q':=λ h=>by rw[h,Auk] at hi;cases hi
     by_cases h2:i=q
     . subst h2;rw[U9] at hi;cases hi;exact ⟨es.length+1,Axh,by omega,λ h=>by omega⟩
     . rw[Aui i h1 h2,hMo i h1];exact ⟨n,hi,Ai _,λ _=>rfl⟩
   . have h1:i≠q':=λ h=>by rw[h,Auk] at hi;cases hi
     have h2:i≠q:=λ h=>by rw[h,U9] at hi;cases hi
     rw[Aui i h1 h2,hMo i h1];exact ⟨n,kk,hi,Ai _,Ai _,λ _=>⟨rfl,rfl⟩,λ _=>rfl⟩
 have hF:∀b,F b->w.heap[b]?=w.heap[b]?:=λ _ _=>rfl;have Akr:∀i o b,get ((q',AO.arr e sz (es.take k))::Cw st.hp q (.Fi (Fx sz (es.length+1)))) i=some o->o.F8 (Fh M q' (M q) i) b->
     ∃i0 o0,get st.hp i0=some o0/\o0.F8 (M i0) b/\(i=q'->i0=q)/\(i≠q'->i0=i/\i≠q):=by
   intro i o b hi ho;rw[Cs] at hi;by_cases h1:i=q'
   . subst h1;rw[if_pos rfl] at hi;cases hi;rw[IB] at ho;exact ⟨q,_,hq,ho,λ _=>rfl,λ h=>(h rfl).elim⟩
   . rw[if_neg h1] at hi;by_cases h2:i=q
     . subst h2;rw[if_pos rfl] at hi;cases hi;exact ho.elim
     . rw[if_neg h2] at hi;rw[hMo i h1] at ho;exact ⟨i,o,hi,ho,λ h=>(h1 h).elim,λ _=>⟨rfl,h2⟩⟩
 refine ⟨⟨λ t d ht=>(hr.env t d ht).keep hF (λ _ h=>h) HJ,hr.size,hr.defers,⟨λ i o hi=>?_,λ i o i' o' b hi TS ho Nf=>?_⟩,?_⟩,λ v hv=>?_⟩
 . rw[Cs] at hi;by_cases h1:i=q'
   . subst h1;rw[if_pos rfl] at hi;cases hi;rw[IB];obtain ⟨g1,g2,g3,g4,g5⟩:=hr.heap.obj q _ hq;refine ⟨g1,by rw[hlen];omega,g3,λ j x hx=>?_,λ hc=>?_⟩
     . rw[AH] at hx;split at hx
       . exact g4 j x hx
       . cases hx
     . obtain ⟨f1,row,f2,f3,f4⟩:=g5 hc;refine ⟨f1,row,f2,f3,λ j x l y hx hy=>?_⟩;rw[AH] at hx;split at hx
       . exact f4 j x l y hx hy
       . cases hx
   . rw[if_neg h1] at hi;by_cases h2:i=q
     . subst h2;rw[if_pos rfl] at hi;cases hi;exact trivial
     . rw[if_neg h2] at hi;rw[hMo i h1];exact (hr.heap.obj i o hi).keep hF (λ _ h=>h) HJ (λ b CI=>⟨rfl,hr.heap.Jj ⟨i,o,hi,CI⟩⟩)
 . obtain ⟨j,p,h1,h2,h3,h4⟩:=Akr i o b hi ho;obtain ⟨j',p',E0,He,h3',h4'⟩:=Akr i' o' b TS Nf;have hj:=hr.heap.inj j p j' p' b h1 E0 h2 He;by_cases e1:i=q'
   . by_cases e2:i'=q'
     . rw[e1,e2]
     . have:=h4' e2;have:=h3 e1;omega
   . by_cases e2:i'=q'
     . have:=h4 e1;have:=h3' e2;omega
     . have:=h4 e1;have:=h4' e2;omega
 . have hk:=hr.keep;refine ⟨hk.os,hk.tape,hk.output,hk.size,hk.LR,hk.F0,hk.Fn,hk.Fl,?_,hk.VB.trans HJ,hk.s0b⟩;rintro b ⟨i,o,hi,ho⟩;obtain ⟨j,p,h1,h2,_⟩:=Akr i o b hi ho;exact hk.own _ ⟨j,p,h1,h2⟩
 . cases hv with
   | ref id off len N RC n v hs hN hva h=>
     rw[U9] at hs;cases hs;obtain ⟨ad,cap,g1,g2,g3,g4,g5⟩:=h rfl;refine .ref q' 0 k k sz k _ Q1 (Ai _) hva λ _=>?_;rw[RI,IB];exact ⟨ad,cap,g1,by omega,g3,g4,g5⟩
theorem Wk.Y3{st:St}{t q k sz:Nat}(q':Nat){e:TypeId}{es:List (List Pd)}(ht:get st.env t=some (.ref q 0 k es.length))(hq:get st.hp q=some (.arr e sz es))(hk:k<=es.length)(Yh:get st.hp q'=none):
   Wk st ⟨(t,.ref q' 0 k k)::st.env,(q',.arr e sz (es.take k))::Cw st.hp q (.Fi (Fx sz (es.length+1))),st.n⟩:=by
 intro c a w F M hr;obtain ⟨h1,h2⟩:=hr.move hq hk Yh;refine ⟨F,_,⟨λ j d hj=>?_,h1.size,h1.defers,h1.heap,h1.keep⟩⟩;rw[Cp] at hj;split at hj
 . rename_i e1;subst e1;cases hj;exact h2 _ (hr.env _ _ ht)
 . exact h1.env j d hj
theorem Wk.H8{st:St}{id j q k sz:Nat}(q':Nat){cs:List D}{ty e:TypeId}{es:List (List Pd)}(hb:get st.hp id=some (.box cs ty))(hj:cs[j]?=some (.ref q 0 k es.length))(hq:get st.hp q=some (.arr e sz es))
   (hk:k<=es.length) (Yh:get st.hp q'=none):
   Wk st ⟨st.env,Cw ((q',.arr e sz (es.take k))::Cw st.hp q (.Fi (Fx sz (es.length+1)))) id (.box (cs.set j (.ref q' 0 k k)) ty),st.n⟩:=by
 intro c a w F M hr;obtain ⟨GG,h2⟩:=hr.move hq hk Yh;have Dl:id≠q:=λ h=>by subst h;rw[hq] at hb;cases hb
 have Axt:id≠q':=λ h=>by subst h;rw[Yh] at hb;cases hb
 have Sq:get ((q',AO.arr e sz (es.take k))::Cw st.hp q (.Fi (Fx sz (es.length+1)))) id=some (.box cs ty):=by
   rw[Cp,if_neg (Bm Axt),CM,if_neg Dl];exact hb
 have Cs:∀i,get (Cw ((q',AO.arr e sz (es.take k))::Cw st.hp q (.Fi (Fx sz (es.length+1)))) id (.box (cs.set j (.ref q' 0 k k)) ty)) i=
     if i=id then some (.box (cs.set j (.ref q' 0 k k)) ty) else get ((q',AO.arr e sz (es.take k))::Cw st.hp q (.Fi (Fx sz (es.length+1)))) i:=λ i=>by rw[CM]
 have Hs:=Dw Cs Sq rfl;have hold:=(hr.heap.obj id _ hb);obtain ⟨LC,row,t,CS,Em,CP⟩:=GG.heap.obj id _ Sq;obtain ⟨_,Bak,t0,Asr,_,Acn⟩:=hold;have J6:Fh M q' (M q) id=M id:=by simp[Fh,Axt]
 rw[J6] at LC CS;rw[Asr] at CS;simp only[Al,Obj.cells.injEq] at CS;obtain ⟨rfl,hty,_⟩:=CS;refine ⟨F,Fh M q' (M q),?_⟩;refine GG.change (st:=⟨st.env,(q',AO.arr e sz (es.take k))::Cw st.hp q (.Fi (Fx sz (es.length+1))),st.n⟩) Cs (λ _ _=>rfl) (by rw[Hs];exact CN.refl _ _) rfl rfl rfl (Ai _) (λ _ _ _=>rfl) ?_ (λ b hb=> .inl ⟨_,Sq,hb⟩);rw[J6];refine ⟨LC,Bak,t0,Asr,by simpa using Em,λ i d hd=>?_,λ h5 h6 i hi=>?_⟩;rotate_left
 . refine Acn.2 h5 ?_ i ?_
   . obtain ⟨x,hx,hn⟩:=A4.1 h6;rcases List.mem_or_eq_of_mem_set hx with h7 | rfl
     . exact A4.2 ⟨x,h7,hn⟩
     . cases hn
   . by_cases e1:i=j
     . subst e1;rw[BE (An.1 hj).1] at hi;cases hi
     . rwa[List.getElem?_set_ne (Bm e1)] at hi
 rw[Hs];by_cases e1:i=j
 . subst e1;have Ct:=(An.1 hj).1;rw[BE Ct] at hd;cases hd;have h3:=Acn.1 i _ hj;exact ⟨h2 _ h3.1,h3.2⟩
 . rw[List.getElem?_set_ne (Bm e1)] at hd;exact CP.1 i d hd
end
end Go.Am
namespace Go.Am
open Go
section
variable {P:Program} {c:Ctx} {st:St} {a:Act} {w:World} {F:Nat->Prop} {M:Nat->Mb}
theorem Wk.Avg{t:Nat}{es:List (List Pd)}(ht:get st.env t=some (.cz es)):Wk st ⟨(t,.p (.sl es))::st.env,st.hp,st.n⟩:=by
 intro c a w F M hr;refine ⟨F,M,⟨λ j d hj=>?_,hr.size,hr.defers,hr.heap,hr.keep⟩⟩;rw[Cp] at hj;split at hj
 . rename_i e1;subst e1;cases hj;have h2:=hr.env _ _ ht;generalize a.tmps.getD t undef=v at h2;cases h2 with | cz _ ad h=>exact .p h
 . exact hr.env j d hj
end
end Go.Am
end
