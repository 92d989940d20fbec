/- Texts of this proof, what it rests on, merged: part D. -/
import Derived.Lib.ConvBytes
import Derived.Lib.OthersKept
import Derived.ScopeJumps
import Derived.Laws.IdiomStrings
import Derived.Lib.LaidTab
import Derived.Lib.ItoaNum
import Derived.Sort.Grow
import Derived.Deep.Draws
import Derived.Below
import Derived.LaidSub
import Derived.Test.YtjbklifaekjilaaGreatDoorCqC
section
set_option linter.unusedVariables false
set_option linter.unusedSimpArgs false
namespace Go.Am
open Go Go.ChangeShapes Go.RowKit
def wtF(p:Field->List Pd->Prop):List Field->List Pd->Prop
 | [],cs=>cs=[]
 | f::r,cs=>∃a b,cs=a++b/\p f a/\wtF p r b
def wtP(P:Program):Nat->TypeId->List Pd->Prop
 | 0,_,_=>False
 | n+1,t,cs=>match P.underlying t with
   | some .bool=>∃b,cs=[.bool b]
   | some (.int k)=>∃v,cs=[.int k v]/\(Lit.int k v).wf=true
   | some .string=>∃l,cs=[.str l]
   | some (.slice e)=>∃es,cs=[.sl es]/\∀y∈es,wtP P n e y
   | some (.struct fs)=>wtF (λ f=>wtP P n f.type) fs.toList cs
   | some (.array k e)=>∃es:List (List Pd),cs=es.flatten/\es.length=k/\∀y∈es,wtP P n e y
   | _=>False
section
variable {H:Type} {enc:TypeId×Value->H} {P:Program} {w:World} {spare:Nat->Bool} {held:Bool}
theorem XC{p:Field->List Pd->Prop}:∀(fs:List Field) (xs:List (DataW H×List MemPlace)),xs.length=fs.length->(∀(i:Nat) f x,fs[i]?=some f->xs[i]?=some x->p f (EU x.1))->wtF p fs (Lp (xs.map (·.1)))
 | [],xs,hl,_=>by
   have:xs=[]:=AZ hl;subst this;rfl
 | f::r,xs,hl,h=>by
   cases xs with
   | nil=>simp at hl
   | cons x xs=>exact ⟨EU x.1,Lp (xs.map (·.1)),rfl,h 0 f x rfl rfl,XC r xs (by simpa using hl) λ i g y hg hy=>h (i+1) g y (by simpa using hg) (by simpa using hy)⟩
theorem Tf:∀(xs:List (DataW H×List MemPlace)),Lp (xs.map (·.1))=(xs.map λ x=>EU x.1).flatten
 | []=>rfl
 | x::r=>by simp only[AD,Lp,List.flatten_cons,Tf r]
theorem Ans:∀(m:Nat) (t:TypeId),FF P m t=true->∀(fuel:Nat) (cs:List Value) (x:DataW H×List MemPlace),
   DataW.trod enc P w 0 spare held fuel t cs=some x->wtP P m t (EU x.1):=by
 intro m
 induction m with
 | zero=>intro t h;simp[FF] at h
 | succ m ih=>
   intro t ht fuel cs x h;simp only[FF] at ht;simp only[wtP];split at ht
   . rename_i hu;obtain ⟨b,rfl,rfl⟩:=DataW.trod_bool hu h;rw[hu];exact ⟨b,rfl⟩
   . rename_i k hu;obtain ⟨n,rfl,rfl,hw⟩:=DataW.trod_int hu h;rw[hu];exact ⟨n,rfl,hw⟩
   . rename_i hu;obtain ⟨s,rfl,rfl,_⟩:=DataW.trod_string hu h;rw[hu];exact ⟨_,rfl⟩
   . rename_i e hu;simp only[Ar,Ao] at ht;obtain ⟨hk,hpe⟩:=ht;rw[hu];rcases DataW.trod_slice hu h with ⟨rfl,rfl⟩ | ⟨a,len,cap,elems,rest,n,rfl,rfl,rfl,hb,hl,hc,hel,Ci,_,_⟩
     . exact ⟨[],rfl,by simp⟩
     . refine ⟨elems.map λ x=>EU x.1,by simp only[EU,Vr],λ y hy=>?_⟩;obtain ⟨z,hz,rfl⟩:=AN.1 hy;obtain ⟨i,hi,rfl⟩:=AA.1 hz;have:=Ci i (by omega);rw[Ax hi] at this;obtain ⟨cs',h1,h2⟩:=Option.bind_eq_some_iff.1 this;exact ih e hpe _ _ _ h2
   . rename_i fs hu;simp only[Ar,Ao] at ht;rw[hu];obtain ⟨xs,n,rfl,rfl,hl,Yv,Ci⟩:=DataW.trod_struct hu h;simp only[EU];refine XC fs.toList xs (by simpa using Yv) λ i f x hf hx=>?_;have h1:=Ci i f (by simpa using hf);rw[hx] at h1;exact ih f.type (AB.1 ht.2 f (AS hf)) _ _ _ h1
   . rename_i k e hu;simp only[Ar,Ao] at ht;rw[hu];obtain ⟨xs,n,rfl,rfl,hl,Yv,Ci⟩:=DataW.trod_array hu h;refine ⟨xs.map λ x=>EU x.1,by simp only[EU,Tf],by simpa using Yv,λ y hy=>?_⟩;obtain ⟨z,hz,rfl⟩:=AN.1 hy;obtain ⟨i,hi,rfl⟩:=AA.1 hz;have h1:=Ci i (by omega);rw[Ax hi] at h1;exact ih e ht.2 _ _ _ h1
   . cases ht
theorem Art{W:World}{t:TypeId}{v:Value}{d:DataW H}{ps:List MemPlace}{sp:Nat->Bool}(ht:T7 P t=true)(h:DataW.Trod enc P W 0 sp held t v d ps):wtP P 30 t (EU d):=by
 unfold T7 at ht;simp only[Ar] at ht;obtain ⟨fuel,hf⟩:=h;exact Ans 30 t ht.1 _ _ _ hf
theorem Aam{W:World}{sp:Nat->Bool}:∀{ts:List TypeId} {vs:List Value} {ds:List (DataW H)} {ps:List MemPlace},(ts.all (T7 P))=true->DataW.TrodAll enc P W 0 sp held ts vs ds ps->
   ds.length=ts.length/\∀(i:Nat) t d,ts[i]?=some t->ds[i]?=some d->wtP P 30 t (EU d)
 | [],vs,ds,ps,_,h=>by
   obtain ⟨rfl,rfl,_⟩:=trodAll_nil h;exact ⟨rfl,λ i t d h=>by simp at h⟩
 | t::ts,vs,ds,ps,ht,h=>by
   obtain ⟨v,vs',d,Y2,p,q,rfl,rfl,_,h1,h2⟩:=trodAll_cons h;simp only[List.all_cons,Ar] at ht;obtain ⟨h3,h4⟩:=Aam ht.2 h2;refine ⟨by simp[h3],λ i t' d' hi hd=>?_⟩;cases i with
   | zero=>simp only[AK,Al] at hi hd;subst hi hd;exact Art ht.1 h1
   | succ i=>simp only[List.getElem?_cons_succ] at hi hd;exact h4 i t' d' hi hd
end
section
variable {P:Program} {n:Nat} {t:TypeId} {cs:List Pd}
theorem Arj{k:IntKind}(hu:P.underlying t=some (.int k))(h:wtP P n t cs):∃v,cs=[.int k v]/\(Lit.int k v).wf=true:=by
 cases n with
 | zero=>exact h.elim
 | succ n=>simpa only[wtP,hu] using h
theorem Aum{e:TypeId}(hu:P.underlying t=some (.slice e))(h:wtP P n t cs):∃m es,cs=[.sl es]/\∀y∈es,wtP P m e y:=by
 cases n with
 | zero=>exact h.elim
 | succ n=>
   simp only[wtP,hu] at h;exact ⟨n,h⟩
theorem Abq{α:Type}(enc:α->List Pd):∀(es:List (List Pd)),(∀y∈es,∃x,y=enc x)->∃l:List α,es=l.map enc
 | [],_=>⟨[],rfl⟩
 | y::r,h=>by
   obtain ⟨x,hx⟩:=h y (by simp);obtain ⟨l,hl⟩:=Abq enc r λ z hz=>h z (by simp[hz]);exact ⟨x::l,by simp[hx,hl]⟩
end
end Go.Am
namespace Go.Am
open Go
section
variable {P:Program} {ops rest:List Oper} {k:Kt} {st:St} {o:Oper}
theorem Ji(h:Ny P o (O P true ops rest k) st):Af P true ops rest k o st .fail:=⟨rfl,h⟩
theorem Axn{st1:St}(hw:Wk st st1)(h:Do P true ops rest k o st1):Af P true ops rest k o st .fail:=by
 refine Ji λ c a w F M Q hr=>?_;obtain ⟨F1,M1,Ia⟩:=hw c a w F M hr;exact PO Ia h Q
theorem Rel.Ays{c:Ctx}{a:Act}{w w':World}{F:Nat->Prop}{M:Nat->Mb}(hr:Rel c st a w F M)(hos:w'.os=w.os)(O6:w'.tape=w.tape)(Ry:w'.output=w.output)
   (Ew:w'.heap.size=w.heap.size+1) (hold:∀b,b<w.heap.size->w'.heap[b]?=w.heap[b]?):Rel c st a w' (λ b=>F b∨b=w.heap.size) M:=by
 have hF:∀b,F b->w'.heap[b]?=w.heap[b]?:=λ b hb=>hold b (hr.keep.Fl b hb);have hs:=CI.refl M (sg st.hp);refine ⟨λ t d ht=>(hr.env t d ht).keep hF (λ _ h=> .inl h) hs,hr.size,hr.defers,⟨λ id x hx=>?_,hr.heap.inj⟩,?_⟩
 . refine (hr.heap.obj id x hx).keep hF (λ _ h=> .inl h) hs λ b CC=>?_;have Cj:=hr.heap.lt ⟨id,x,hx,CC⟩;refine ⟨hold _ Cj,?_⟩;rintro (h | h)
   . exact hr.heap.IY ⟨id,x,hx,CC⟩ h
   . omega
 . have hk:=hr.keep;refine ⟨hos.trans hk.os,O6.trans hk.tape,Ry.trans hk.output,by have:=hk.size;omega,λ b hb hO=>?_,λ b hb=> .inl (hk.F0 b hb),λ b hb=>?_,λ b hb=>?_,hk.own,hk.UM,hk.Z9⟩
   . rw[hold b (Nat.lt_of_lt_of_le hb hk.size)];exact hk.Lz b hb hO
   . rcases hb with hb | rfl
     . exact hk.Fn b hb
     . exact .inr (.inr hk.size)
   . rcases hb with hb | rfl
     . have:=hk.Fl b hb;omega
     . omega
theorem ZD{s d e:TypeId}{x:Operand}{z0 z1 z2:D}{n0 n1 n2 n3 b2:Nat}{l:List UInt8}(ho:o.op= .convert s d x)(hs:Cx P s=some ⟨n0,n1,.string,z0⟩)(hd:Cx P d=some ⟨n2,n3,.slice e,z1⟩)(he:Cx P e=some ⟨1,b2,.int .u8,z2⟩)
   (hx:ev st x= .p (.str l)) (h:O P true ops rest k (st.put o.dst (.p (.sl (DX l))))):Af P true ops rest k o st .fail:=by
 refine Ji λ c a w F M Q hr=>?_;obtain ⟨_,u1,_,_,Fe,_,e1⟩:=B4 hs;obtain ⟨_,u2,_,_,Lt,_,e2⟩:=B4 hd;obtain ⟨_,u3,_,_,hu3,_,e3⟩:=B4 he;simp only[TI.mk.injEq] at e1 e2 e3;obtain rfl:=TK.of_string e1.2.2.1.symm;obtain rfl:=TK.of_slice e2.2.2.1.symm;obtain rfl:=TK.of_int e3.2.2.1.symm;have hv:=B9 hr x;rw[hx] at hv;generalize ML:a.eval x=v at hv;cases hv with | p hv=>cases hv with | str=>
 have Dr:=Lib.run_convert_string_bytes (P:=P) w s d e ⟨l.toArray⟩ Fe Lt hu3;have KD:Rel c st a (Lib.bytesWorld w e ⟨l.toArray⟩) (λ b=>F b∨b=w.heap.size) M:=hr.Ays rfl rfl rfl (Lib.bytesWorld_size _ _ _) (λ b hb=>Lib.bytesWorld_at_old _ _ _ b hb);unfold Oper.wp;have hex:(execOp a.eval o).run P w= .ok (.value (.slice (some ⟨w.heap.size,0,none⟩) (⟨l.toArray⟩:ByteArray).size (grownCap w (⟨l.toArray⟩:ByteArray).size 0 e))) (Lib.bytesWorld w e ⟨l.toArray⟩):=by
   simp only[execOp,ho,ML];simp[Dr]
 rw[hex];refine ⟨_,_,_,h,KD.put ?_ o.dst⟩;have hlen:(⟨l.toArray⟩:ByteArray).size=(DX l).length:=by simp[DX,HV]
 rw[hlen];refine .p (.sl (DX l) w.heap.size 0 _ 1 _ e _ (.inr rfl) (Lib.bytesWorld_at_new _ _ _) (by have:=grownCap_ge w (DX l).length 0 e;exact this) (λ i y hy=>?_) (λ i y j q hy hq=>?_) (λ i y j q hy hq=>?_))
 . simp only[DX,AP] at hy;cases hb:l[i]? with
   | none=>rw[hb] at hy;cases hy
   | some b=>rw[hb] at hy;cases hy;rfl
 . simp only[DX,AP] at hy;cases hb:l[i]? with
   | none=>rw[hb] at hy;cases hy
   | some b=>
     rw[hb] at hy;cases hy;have Cj:=(An.1 hb).1;cases j with
     | succ j=>simp at hq
     | zero=>simp[Lib.bytesCells];omega
 . simp only[DX,AP] at hy;cases hb:l[i]? with
   | none=>rw[hb] at hy;cases hy
   | some b=>
     rw[hb] at hy;cases hy;have Cj:=(An.1 hb).1;cases j with
     | succ j=>simp at hq
     | zero=>
       simp only[AK,Al] at hq;subst hq;have:(Lib.bytesCells w e ⟨l.toArray⟩).getD (0+i*1+0) undef= .int .u8 b.toNat:=by
         rw[As];simp[Lib.bytesCells,Array.getElem?_append,Cj];have:=(An.1 hb).2;rw[this]
       rw[this];exact .int _ _
theorem Ang{t:TypeId}{x:Operand}{q:Nat}{n0 n1:Nat}{z0:D}{l:List UInt8}(ho:o.op= .range t x)(hq:o.dst=some q)(ht:Cx P t=some ⟨n0,n1,.string,z0⟩)(hx:ev st x= .p (.str l))(hn:get st.hp q=none)
   (h:O P true ops rest k (({st with hp:=(q,.iter l 0)::st.hp}:St).put (some q) (.ptr q 0))):Af P true ops rest k o st .fail:=by
 refine Ji λ c a w F M Q hr=>?_;obtain ⟨_,u1,_,_,Fe,_,e1⟩:=B4 ht;simp only[TI.mk.injEq] at e1;obtain rfl:=TK.of_string e1.2.2.1.symm;have hv:=B9 hr x;rw[hx] at hv;generalize ML:a.eval x=v at hv;cases hv with | p hv=>cases hv with | str=>
 have Ci:=K2 st.hp q (.iter l 0);have hM:∀j,j≠q->Fi M q ⟨w.heap.size,0,[]⟩ j=M j:=λ j hj=>by simp[Fi,hj]
 have Jk:Fi M q ⟨w.heap.size,0,[]⟩ q=⟨w.heap.size,0,[]⟩:=by simp[Fi]
 have GY:=GC Ci hM hn;have hold:∀b,b<w.heap.size->(w.iter ⟨l.toArray⟩ 0).heap[b]?=w.heap[b]?:=λ b hb=>alloc_old w _ b hb;have KD:Rel c {st with hp:=(q,.iter l 0)::st.hp} a (w.iter ⟨l.toArray⟩ 0) F (Fi M q ⟨w.heap.size,0,[]⟩):=by
   refine hr.change Ci hM GY rfl rfl rfl (by simp[World.iter]) (λ b hb _=>hold b hb) ?_ (λ b hb=> .inr (by have:b=_:=hb;rw[this,Jk];exact Ai _));rw[Jk];exact ⟨λ hF=>Nat.lt_irrefl _ (hr.keep.Fl _ hF),World.iter_heap _ _ _⟩
 unfold Oper.wp;have hex:(execOp a.eval o).run P w= .ok (.value (.pointer (some ⟨w.heap.size,0,none⟩))) (w.iter ⟨l.toArray⟩ 0):=by
   simp only[execOp,ho,ML];simp[run_range_string w t ⟨l.toArray⟩ Fe]
 rw[hex];rw[<-hq] at h;refine ⟨_,_,_,h,KD.put ?_ o.dst⟩;have:=DR.ptr (F:=F) (w:=w.iter ⟨l.toArray⟩ 0) (M:=Fi M q ⟨w.heap.size,0,[]⟩) (s:=sg ((q,.iter l 0)::st.hp)) q 0 (by rw[C1 Ci];simp[AO.sg]);rwa[Jk] at this
theorem Aql{it:Operand}{id:Nat}{l:List UInt8}{pos:Nat}(ho:o.op= .next it true)(hx:ev st it= .ptr id 0)(hg:get st.hp id=some (.iter l pos))(ha:∀b∈l,b.toNat<128)
   (h1:∀(Cj:pos<l.length),O P true ops rest k (({st with hp:=Co st.hp id (.iter l (pos+1))}:St).put o.dst (.De [.p (.bool true),.p (.int .i64 pos),.p (.int .i32 (l[pos]).toNat)])))
   (h2:¬pos<l.length->O P true ops rest k (st.put o.dst (.De [.p (.bool false)]))):Af P true ops rest k o st .fail:=by
 refine Ji λ c a w F M Q hr=>?_;have hv:=B9 hr it;rw[hx] at hv;generalize ML:a.eval it=v at hv;cases hv with
 | ptr _ _ hs=>
   obtain ⟨Ll,Qv⟩:=hr.heap.obj id _ hg;unfold Oper.wp;by_cases Cj:pos<l.length
   . have Aw3:pos<(⟨l.toArray⟩:ByteArray).size:=by rw[HV];exact Cj
     have hb:((⟨l.toArray⟩:ByteArray)[pos]'Aw3)=l[pos]:=by simp[ByteArray.getElem_eq_getElem_data]
     have Dr:=Go.Lib.run_next_ascii_at (P:=P) w (M id).Dp ⟨l.toArray⟩ pos o.type Qv Aw3 (by rw[hb];exact ha _ (AW Cj));have hex:(execOp a.eval o).run P w= .ok (.value (.tuple #[.bool true,.int .i64 pos,.int .i32 (l[pos]).toNat])) (w.iterAt (M id).Dp ⟨l.toArray⟩ (pos+1)):=by
       simp only[execOp,ho,ML];simp[Dr,hb]
     rw[hex];have RB:(M id).Dp<w.heap.size:=(A8.1 Qv).1;have Ci:∀j,get (Co st.hp id (.iter l (pos+1))) j=if j=id then some (.iter l (pos+1)) else get st.hp j:=CH _ _ _
     have Hb:=Ds Ci hg rfl;have KD:Rel c {st with hp:=Co st.hp id (.iter l (pos+1))} a (w.iterAt (M id).Dp ⟨l.toArray⟩ (pos+1)) F M:=by
       refine hr.change (M':=M) Ci (λ _ _=>rfl) (by rw[Hb];exact CI.refl _ _) rfl rfl rfl (by simp[World.iterAt]) (λ b hb Dn=>?_) ⟨Ll,Go.Lib.iterAt_heap w _ _ _ _ Qv⟩ (λ b hb=> .inl ⟨_,hg,hb⟩);have:b≠(M id).Dp:=Dn _ hg;simp[World.iterAt,Array.getElem?_setIfInBounds,Bj this]
     refine ⟨_,_,_,h1 Cj,KD.put ?_ o.dst⟩;refine .De _ _ rfl λ i d hd=>?_
     match i,hd with
     | 0,hd=>simp only[AK,Al] at hd;subst hd;exact .p (.bool true)
     | 1,hd=>simp only[List.getElem?_cons_succ,AK,Al] at hd;subst hd;exact .p (.int _ _)
     | 2,hd=>simp only[List.getElem?_cons_succ,AK,Al] at hd;subst hd;exact .p (.int _ _)
     | i+3,hd=>simp at hd
   . have Dr:=Go.Lib.run_next_end_at (P:=P) w (M id).Dp ⟨l.toArray⟩ pos o.type Qv (by rw[HV];exact Cj);have hex:(execOp a.eval o).run P w= .ok (.value (.tuple #[.bool false])) w:=by
       simp only[execOp,ho,ML];simp[Dr]
     rw[hex];refine ⟨_,_,_,h2 Cj,hr.put ?_ o.dst⟩;refine .De _ _ rfl λ i d hd=>?_
     match i,hd with
     | 0,hd=>simp only[AK,Al] at hd;subst hd;exact .p (.bool false)
     | i+1,hd=>simp at hd
end
end Go.Am
namespace Go.Am
open Go
theorem Wk.seal{st:St}{t id:Nat}{ty:TypeId}{xs:List Pd}{env1:List (Nat×D)}{hp1:Hp}(ht:get st.env t=some (.ptr id 0))(ho:get st.hp id=some (.box (xs.map .p) ty))(h1:get hp1 id=none)(hl:Le st ⟨env1,hp1,st.n⟩):
   Wk st ⟨(t,.pe xs)::env1,hp1,st.n⟩:=by
 intro c a w F M hr;have Ia:=hr.forget hl;obtain ⟨Ll,row,_,CS,Ew,CK⟩:=hr.heap.obj id _ ho;have CC:Ev M st.hp (M id).Dp:=⟨id,_,ho,rfl⟩;have hLH:C5 st.hp hp1:=hl.2.2.1;have hs:=CI.refl M (sg hp1);refine ⟨λ b=>F b∨b=(M id).Dp,M,⟨λ q d hq=>?_,Ia.size,Ia.defers,⟨λ j o hj=>?_,Ia.heap.inj⟩,?_⟩⟩
 . rw[Cb] at hq;split at hq
   . rename_i e;subst e;cases hq;have hv:=hr.env _ _ ht;generalize a.tmps.getD t undef=v at hv;cases hv with
     | ptr _ _ _=>
       refine .pe xs (M id).Dp 0 row _ (0,0) (.inr rfl) CS (λ j x hx=>?_) (λ j x hx=>?_)
       . have:=(An.1 hx).1;simp at Ew;omega
       . have:=(CK.1 j (.p x) (by simp[hx])).1;rw[A0];cases this with | p hp=>exact hp.keep (λ _ _=>rfl) (λ _ h=> .inl h)
   . exact (Ia.env q d hq).keep (λ _ _=>rfl) (λ _ h=> .inl h) hs
 . refine (Ia.heap.obj j o hj).keep (λ _ _=>rfl) (λ _ h=> .inl h) hs λ b WJ=>⟨rfl,?_⟩;rintro (h | h)
   . exact Ia.heap.IY ⟨j,o,hj,WJ⟩ h
   . have:=hr.heap.inj j o id _ b (hLH.spec j o hj) ho WJ h;subst this;simp only at hj;rw[h1] at hj;cases hj
 . have hk:=Ia.keep;refine ⟨hk.os,hk.tape,hk.output,hk.size,hk.Lz,λ b hb=> .inl (hk.F0 b hb),λ b hb=>?_,λ b hb=>?_,hk.own,hk.UM,hk.Z9⟩
   . rcases hb with hb | rfl
     . exact hk.Fn b hb
     . exact .inr (hr.keep.own _ CC)
   . rcases hb with hb | rfl
     . exact hk.Fl b hb
     . exact (A8.1 CS).1
section
variable {P:Program} {ops rest:List Oper} {k:Kt} {st:St} {o:Oper}
theorem ZC{t e:TypeId}{x lo:Operand}{z0:D}{n0 n1 n:Nat}{ti:TI}{xs:List Pd}{kd:IntKind}{L:Nat}(ho:o.op= .slice t x (some lo) none none)(ht:Cx P t=some ⟨n0,n1,.array n e,z0⟩)(he:Cx P e=some ti)
   (hx:ev st x= .pe xs) (ZO:ev st lo= .p (.int kd (L:Nat))) (hL:L<n) (Hn:xs.length=n*ti.size) (Ew:0<ti.size)
   (h:O P true ops rest k (st.put o.dst (.p (.sl ((chunk ti.size n xs).drop L))))):Af P true ops rest k o st .fail:=by
 refine Ji λ c a w F M Q hr=>?_;obtain ⟨_,u1,_,_,Fe,_,e1⟩:=B4 ht;simp only[TI.mk.injEq] at e1;obtain rfl:=TK.of_array e1.2.2.1.symm;obtain ⟨i2,u2,z2,EG,Lt,_,rfl⟩:=B4 he;simp only at Hn Ew h;have hv:=B9 hr x;rw[hx] at hv;generalize ML:a.eval x=v at hv;have Uk:=B9 hr lo;rw[ZO] at Uk;generalize Az7:a.eval lo=vl at Uk;cases Uk with | p Uk=>cases Uk with | int=>
 cases hv with
 | pe _ b off row ty fr hF hh hi hp=>
   unfold Oper.wp;have hex:(execOp a.eval o).run P w= .ok (.value (.slice (some ⟨b,off+L*i2.size,none⟩) (n - L) (n - L))) w:=by
     have Dn:¬n=L:=by omega
     simp only[execOp,ho,ML,Az7,Bk,Option.map_none];simp[Instr.sliceAt,Instr.sureAddr,Instr.sliceBounds,Instr.sliceBound,asIntOf,run_underlying Fe,Dd EG,Dn,Addr.add_lit];omega
   rw[hex];refine ⟨_,_,_,h,hr.put ?_ o.dst⟩;have hlen:((chunk i2.size n xs).drop L).length=n - L:=by rw[List.length_drop,IA]
   have Ci:∀(i:Nat) y,((chunk i2.size n xs).drop L)[i]?=some y->L+i<n/\y=(xs.drop ((L+i)*i2.size)).take i2.size:=by
     intro i y hy;rw[AU,MW] at hy;split at hy
     . rename_i Cj;cases hy;exact ⟨Cj,rfl⟩
     . cases hy
   have Nv:∀(i:Nat) y (j:Nat) q,((chunk i2.size n xs).drop L)[i]?=some y->y[j]?=some q->xs[(L+i)*i2.size+j]?=some q:=by
     intro i y j q hy hq;obtain ⟨_,rfl⟩:=Ci i y hy;rw[AH] at hq;split at hq
     . rw[AU] at hq;exact hq
     . cases hq
   have Ap8:∀i j,off+L*i2.size+i*i2.size+j=off+((L+i)*i2.size+j):=λ i j=>by rw[Bc];omega
   rw[<-hlen];refine .p (.sl _ b (off+L*i2.size) _ i2.size row ty fr hF hh (Ai _) (λ i y hy=>?_) (λ i y j q hy hq=>?_) (λ i y j q hy hq=>?_))
   . obtain ⟨Cj,rfl⟩:=Ci i y hy;rw[Bm,List.length_drop,Hn];have:(L+i+1)*i2.size<=n*i2.size:=Bo _ Cj;rw[Bc] at this;omega
   . rw[Ap8];exact hi _ _ (Nv i y j q hy hq)
   . rw[Ap8];exact hp _ _ (Nv i y j q hy hq)
end
end Go.Am
namespace Go.Am
open Go
theorem Wk.G6{st:St}{id j q sz:Nat}{cs:List D}{ty:TypeId}(e:TypeId)(hb:get st.hp id=some (.box cs ty))(hj:cs[j]?=some (.cl []))(hq:get st.hp q=none)(hs:0<sz):
   Wk st ⟨st.env,(q,.arr e sz [])::Co st.hp id (.box (cs.set j (.ref q 0 0 0)) ty),st.n⟩:=by
 intro c a w F M hr;obtain ⟨Ia,h1⟩:=hr.SC (e:=e) hq hs;have Dn:id≠q:=λ h=>by subst h;rw[hq] at hb;cases hb
 have RD:get ((q,AO.arr e sz [])::st.hp) id=some (.box cs ty):=by rw[Cb,if_neg (Bj Dn)];exact hb
 have Ci:∀i,get ((q,AO.arr e sz [])::Co st.hp id (.box (cs.set j (.ref q 0 0 0)) ty)) i=if i=id then some (.box (cs.set j (.ref q 0 0 0)) ty) else get ((q,AO.arr e sz [])::st.hp) i:=by
   intro i;simp only[Cb,CH];by_cases e1:i=id
   . subst e1;simp[Bj Dn]
   . by_cases e2:q=i
     . subst e2;simp[e1]
     . simp[e1,e2]
 have Hb:=Ds Ci RD rfl;have Ajr:=Ia.heap.obj id _ RD;obtain ⟨Ll,row,t,CS,Ew,CK⟩:=Ajr;refine ⟨F,Fi M q ⟨0,0,[]⟩,?_⟩;refine Ia.change (st:=⟨st.env,(q,AO.arr e sz [])::st.hp,st.n⟩) Ci (λ _ _=>rfl) (by rw[Hb];exact CI.refl _ _) rfl rfl rfl (Ai _) (λ _ _ _=>rfl) ?_ (λ b hb=> .inl ⟨_,RD,hb⟩);refine ⟨Ll,row,t,CS,by simpa using Ew,λ i d hd=>?_,λ h5 h6 i hi=>?_⟩;rotate_left
 . refine CK.2 h5 ?_ i ?_
   . obtain ⟨x,hx,hn⟩:=Bd.1 h6;rcases List.mem_or_eq_of_mem_set hx with h7 | rfl
     . exact Bd.2 ⟨x,h7,hn⟩
     . cases hn
   . by_cases e1:i=j
     . subst e1;rw[BB (An.1 hj).1] at hi;cases hi
     . rwa[List.getElem?_set_ne (Bj e1)] at hi
 rw[Hb];by_cases e1:i=j
 . subst e1;have Cj:=(An.1 hj).1;rw[BB Cj] at hd;cases hd;have h2:=CK.1 i _ hj;refine ⟨?_,h2.2⟩;have h3:=h2.1;generalize row.getD i undef=v at h3;cases h3 with | cl _ ad _ _=>exact h1 ad
 . rw[List.getElem?_set_ne (Bj e1)] at hd;exact CK.1 i d hd
theorem Wk.pure{st:St}{t id sz:Nat}{e:TypeId}{es:List (List Pd)}(ht:get st.env t=some (.ref id 0 es.length es.length))(ho:get st.hp id=some (.arr e sz es)):
   Wk st ⟨(t,.p (.sl es))::st.env,Co st.hp id (.Lo sz es),st.n⟩:=by
 intro c a w F M hr;have hd:=hr.env _ _ ht;obtain ⟨x,h',F',⟨rfl,rfl⟩,KD,hF,hs,hp⟩:=KP hr hd (k:=λ x h'=>x= .sl es/\h'=Co st.hp id (.Lo sz es)) (by simp[J5,ho,froze]);refine ⟨F',M,⟨λ j d hj=>?_,KD.size,KD.defers,KD.heap,KD.keep⟩⟩;rw[Cb] at hj;split at hj
 . rename_i e1;subst e1;cases hj;exact .p hp
 . exact KD.env j d hj
attribute [go_sem] RF
theorem Acq(ρ:Nat->Option Nat)(xs:List Pd):HW ρ (xs.map D.p)=xs.map D.p:=by
 induction xs with
 | nil=>rfl
 | cons x r ih=>simp[HW,D.Ea,ih]
theorem Aj0(xs:List Pd):(xs.map D.p).all D.one=true:=by
 induction xs with
 | nil=>rfl
 | cons x r ih=>simp[D.one]
theorem CE{P:Program}{l:List Oper}{id:Nat}{p:List (Nat×Nat)}{k:Kt}{st:St}(hm:P.follows .mixedOrders=true)(hB:Aaz l p=true)(hle:C5 st.hp st.hp)(h:G P l st.hp p k st):
   X P (.region id l.toArray true) k st:=Di st.hp hm hB hle h
attribute [go_sem] Acq Aj0 List.length_map
end Go.Am
namespace Go.Am
open Go
def jmp(P:Program)(c:Code)(Q:Exit->Act->World->Prop):Nat->Exit->Act->World->Prop
 | 0,.goto _,_,_=>False
 | n+1,.goto l,a,w=>∃rest,findLabel c l=some rest/\rest.wp P (jmp P c Q n) a w
 | _,.normal,a,w=>Q .normal a w
 | _,.exit id,a,w=>Q (.exit id) a w
 | _,.ret,a,w=>Q .ret a w
 | _,.panic ch,a,w=>Q (.panic ch) a w
 | _,.outgrown,a,w=>Q .outgrown a w
theorem VZ{P:Program}{a:Act}{w:World}{Q:Exit->Act->World->Prop}{c:Code}(n:Nat)(first:c.wp P (jmp P c Q n) a w):(Code.scope c).wp P Q a w:=by
 intro b k cs;have key:∀n (c1:Code) a w,c1.wp P (jmp P c Q n) a w->∃e a' w',Q e a' w'/\Arrives P (lone (b.at a (.code c1:: .inScope c::k)) cs w) b k cs e a' w':=by
   intro n
   induction n with
   | zero=>
     intro c1 a w h;obtain ⟨e,a₁,w₁,hq,Pa⟩:=h b (.inScope c::k) cs;cases e with
     | normal=>exact ⟨.normal,a₁,w₁,hq,Steps.trans Pa (.one step_inScope)⟩
     | exit id=>exact ⟨.exit id,a₁,w₁,hq,λ k' hk=>Pa k' (by simp[exitTo,hk])⟩
     | goto l'=>exact hq.elim
     | ret=>exact ⟨_,a₁,w₁,hq,Pa⟩
     | panic ch=>exact ⟨_,a₁,w₁,hq,Pa⟩
     | outgrown=>exact ⟨_,a₁,w₁,hq,Pa⟩
   | succ n ih=>
     intro c1 a w h;obtain ⟨e,a₁,w₁,hq,Pa⟩:=h b (.inScope c::k) cs;cases e with
     | normal=>exact ⟨.normal,a₁,w₁,hq,Steps.trans Pa (.one step_inScope)⟩
     | exit id=>exact ⟨.exit id,a₁,w₁,hq,λ k' hk=>Pa k' (by simp[exitTo,hk])⟩
     | goto l'=>
       obtain ⟨rest,hf,hx⟩:=hq;have hg:gotoIn l' (.inScope c::k)=some (.code rest:: .inScope c::k):=by simp[gotoIn,hf]
       obtain ⟨e₂,a₂,w₂,hq₂,Awi⟩:=ih rest a₁ w₁ hx;exact ⟨e₂,a₂,w₂,hq₂,.of_steps (Pa _ hg) Awi⟩
     | ret=>exact ⟨_,a₁,w₁,hq,Pa⟩
     | panic ch=>exact ⟨_,a₁,w₁,hq,Pa⟩
     | outgrown=>exact ⟨_,a₁,w₁,hq,Pa⟩
 obtain ⟨e,a',w',hq,Pa⟩:=key n c a w first
 exact ⟨e,a',w',hq,.of_steps (.one step_scope) Pa⟩
def scQ(P:Program)(x:Code)(k:Kt):Nat->Exit->St->Prop
 | 0,.goto _,_=>False
 | n+1,.goto l,st=>∃st1 rest,Wk st st1/\findLabel x l=some rest/\wA P rest (scQ P x k n) st1
 | _,.normal,st=>J P k .normal st
 | _,.exit id,st=>J P k (.exit id) st
 | _,.ret,st=>J P k .ret st
 | _,.panic ch,st=>J P k (.panic ch) st
 | _,.outgrown,st=>J P k .outgrown st
def Jm(P:Program)(x:Code)(k:Kt)(n l:Nat)(st:St):Prop:=scQ P x k n (.goto l) st
section
variable {P:Program} {st:St} {x:Code} {k:Kt}
theorem Aat{c:Ctx}:∀(n:Nat) (e:Exit) (a:Act) (w:World),QC c (scQ P x k n) e a w->jmp P x (QC c (k.E4 P)) n e a w
 | 0,.goto _,_,_,⟨_,_,_,h,_⟩=>h.elim
 | n+1,.goto l,a,w,⟨st,F,M,⟨st1,rest,hw,hf,hx⟩,hr⟩=>by
   obtain ⟨F1,M1,Ia⟩:=hw c a w F M hr;exact ⟨rest,hf,Code.wp_mono (Aat n) (G2 rest Ia hx)⟩
 | 0,.normal,_,_,h=>h
 | 0,.exit _,_,_,h=>h
 | 0,.ret,_,_,h=>h
 | 0,.panic _,_,_,h=>h
 | 0,.outgrown,_,_,h=>h
 | _+1,.normal,_,_,h=>h
 | _+1,.exit _,_,_,h=>h
 | _+1,.ret,_,_,h=>h
 | _+1,.panic _,_,_,h=>h
 | _+1,.outgrown,_,_,h=>h
theorem Abt(n:Nat)(h:X P x (.user (scQ P x k n)) st):X P (.scope x) k st:=
 λ c a w F M hr=>VZ n (Code.wp_mono (Aat n) (G2 x hr h))
theorem Ah4(n l:Nat):J P (.user (scQ P x k n)) (.goto l) st=Jm P x k n l st:=nd rfl
theorem Zy(n:Nat):J P (.user (scQ P x k n)) .normal st=J P k .normal st:=by cases n<;>rfl
theorem An6(n:Nat):J P (.user (scQ P x k n)) .ret st=J P k .ret st:=by cases n<;>rfl
theorem Ro{β:Type}(Xt:β->Nat)(S:β->St)(I:β->Prop)(μ:β->Nat)(N:Nat)
   (h0:∀n,(∀b' st',I b'->μ b'<N->Wk st' (S b')->Jm P x k n (Xt b') st')->X P x (.user (scQ P x k n)) st)
   (hs:∀b n,I b->(∀b' st',I b'->μ b'<μ b->Wk st' (S b')->Jm P x k n (Xt b') st')->∃rest,findLabel x (Xt b)=some rest/\X P rest (.user (scQ P x k n)) (S b)):X P (.scope x) k st:=by
 have key:∀n b st',I b->μ b<n->Wk st' (S b)->Jm P x k n (Xt b) st':=by
   intro n
   induction n with
   | zero=>intro b _ _ h;exact (A3 _ h).elim
   | succ n ih=>
     intro b st' hb hm hw;obtain ⟨rest,hf,hx⟩:=hs b n hb λ b' Aym Qw Cj HG=>ih b' Aym Qw (by omega) HG;exact ⟨S b,rest,hw,hf,hx⟩
 exact Abt N (h0 N λ b' st' Qw Cj hw=>key N b' st' Qw Cj hw)
end
attribute [go_sem] Ah4 Zy An6
end Go.Am
namespace Go.Am
open Go
section
variable {P:Program} {ops rest:List Oper} {k:Kt} {st:St} {o:Oper}
theorem Auc{s d e:TypeId}{x:Operand}{z0 z1 z2:D}{n0 n1 n2 n3 b2:Nat}{l:List UInt8}{id:Nat}{t:TypeId}(ho:o.op= .convert s d x)(hs:Cx P s=some ⟨n0,n1,.slice e,z0⟩)(hd:Cx P d=some ⟨n2,n3,.string,z1⟩)(he:Cx P e=some ⟨1,b2,.int .u8,z2⟩)
   (hx:ev st x= .ref id 0 l.length l.length) (hg:get st.hp id=some (.arr t 1 (DX l))) (h:O P true ops rest k (st.put o.dst (.p (.str l)))):Af P true ops rest k o st .fail:=by
 refine Ji λ c a w F M Q hr=>?_;obtain ⟨_,u1,_,_,Fe,_,e1⟩:=B4 hs;obtain ⟨_,u2,_,_,Lt,_,e2⟩:=B4 hd;obtain ⟨_,u3,_,_,hu3,_,e3⟩:=B4 he;simp only[TI.mk.injEq] at e1 e2 e3;obtain rfl:=TK.of_slice e1.2.2.1.symm;obtain rfl:=TK.of_string e2.2.2.1.symm;obtain rfl:=TK.of_int e3.2.2.1.symm;have hv:=B9 hr x;rw[hx] at hv;generalize ML:a.eval x=v at hv;have hlen:(DX l).length=l.length:=by simp[DX]
 have Dr:(convert s d v).run P w= .ok (.string ⟨l.toArray⟩) w:=by
   cases hv with
   | ref _ _ _ _ sz n _ Hb hN RQ Q8=>
     have hsn:sg st.hp id=some (.arr 1 l.length):=by simp[sg,hg,AO.sg,hlen]
     rw[hsn] at Hb;simp only[Al,Sg.arr.injEq] at Hb;obtain ⟨rfl,rfl⟩:=Hb;obtain ⟨ad,cap,rfl,h1,h2,h3,h4⟩:=Q8 rfl;obtain ⟨h5,h6,h7,h8,h9⟩:=hr.heap.obj id _ hg;by_cases hc:cap=0
     . have hl0:l=[]:=AZ (by omega);subst hl0;cases ad with
       | none=>
         rw[run_convert_bytes_string w s d e none _ cap Fe hu3 Lt];simp[Conv.bytesToString];rfl
       | some ad=>exact run_convert_bytes_back w s d e ad cap [] Fe hu3 Lt (λ j hj=>by simp at hj)
     . obtain rfl:=h4.resolve_left hc;obtain ⟨_,row,⟨fr,CS,_⟩,Ew,CK⟩:=h9 (by omega);refine run_convert_bytes_back w s d e _ cap l Fe hu3 Lt λ j hj=>?_;have hp:=CK j [.int .u8 (l[j]).toNat] 0 (.int .u8 (l[j]).toNat) (by simp[DX,hj]) rfl;have Cj:j<row.size:=by omega
       have Nv:w.cell? ((⟨(M id).Dp,0*1,none⟩:Addr).add j)=row[j]?:=by
         rw[Addr.add_lit];simp[World.cell?,CS]
       rw[Nv];simp only[Nat.mul_one,Bh] at hp;rw[As,A5 Cj] at hp;rw[A5 Cj];simp only[AY] at hp;generalize row[j]=y at hp;cases hp;rfl
 unfold Oper.wp;have hex:(execOp a.eval o).run P w= .ok (.value (.string ⟨l.toArray⟩)) w:=by
   simp only[execOp,ho,ML];simp[Dr]
 rw[hex];exact ⟨_,_,_,h,hr.put (.p (.str l)) o.dst⟩
end
end Go.Am
namespace Go.Am
open Go
theorem Hh(h e:Hp)(j:Nat):get (h++e) j=match get h j with | some o=>some o | none=>get e j:=by
 induction h with
 | nil=>rfl
 | cons x r ih=>
   obtain ⟨k,o⟩:=x;simp only[AR,Cb];split
   . rfl
   . exact ih
theorem BV.C8{P:Program}{f:FuncId}{args:List D}{h:Hp}{R:Hp->D->Prop}{id g:Nat}{cs:List Pd}(hc:BV P f args h R)(hid:base<=id)(hn:get h id=none)
   (At3:((C6 args++DL h).all λ i=>(get h i).isSome)=true) (hRn:∀h1 r,R h1 r->get h1 id=none):
   BV P f args (h++[(id,.C8 g cs)]) λ h' r=>∃h1,R h1 r/\h'=h1++[(id,.C8 g cs)]:=by
 intro vs w F M Lw Ow Rw hd;have Ci:∀j o,get h j=some o->get (h++[(id,AO.C8 g cs)]) j=some o:=λ j o ho=>by rw[Hh,ho]
 have hgl:get (h++[(id,AO.C8 g cs)]) id=some (.C8 g cs):=by rw[Hh,hn];simp[Cb]
 have Nq:∀i,i∈C6 args++DL h->∃o,get h i=some o:=λ i hi=>BE.1 (AB.1 At3 i hi)
 let ρ:Nat->Option Nat:=λ i=>if (get h i).isSome then some i else none
 have hρ:∀i j,ρ i=some j->sg (h++[(id,AO.C8 g cs)]) i≠none->M j=M i/\sg h j=sg (h++[(id,AO.C8 g cs)]) i:=by
   intro i j hj _;simp only[ρ] at hj;split at hj
   . rename_i hs;simp only[Al] at hj;subst hj;obtain ⟨o,ho⟩:=BE.1 hs;exact ⟨rfl,by simp[sg,ho,Ci _ _ ho]⟩
   . cases hj
 have Aw7:∀i,(∃o,get h i=some o)->ρ i=some i:=λ i ⟨o,ho⟩=>by simp[ρ,ho]
 have Ak3:HR F w M h:=by
   constructor
   . intro i o ho;have:=(Lw.obj i o (Ci i o ho)).Ea (M':=M) hρ;rwa[AO.PY (λ j hj=>Aw7 j (Nq j (List.mem_append_right _ (Qn ho hj))))] at this
   . intro i o i' o' b ho MM CC Eh;exact Lw.inj i o i' o' b (Ci _ _ ho) (Ci _ _ MM) CC Eh
 have Vh:IB F w M (sg h) args vs.toList:=by
   refine ⟨hd.1,λ i d hi=>?_⟩;have:=(hd.2 i d hi).Ea (M':=M) hρ;rwa[PY (λ j hj=>Aw7 j (Nq j (BL _ ?_)))] at this;clear this;have Ft:∀(l:List D) (i:Nat),l[i]?=some d->j∈C6 l:=by
     intro l
     induction l with
     | nil=>intro i hi;simp at hi
     | cons x r ih=>
       intro i hi;simp only[C6,Au];cases i with
       | zero=>simp only[AK,Al] at hi;subst hi;exact .inl hj
       | succ i=>exact .inr (ih i (by simpa using hi))
   exact Ft args i hi
 have Ajp:∀b,Ev M (h++[(id,AO.C8 g cs)]) b↔Ev M h b:=by
   intro b;constructor
   . rintro ⟨i,o,ho,CC⟩;rw[Hh] at ho;cases hg:get h i with
     | some o2=>rw[hg] at ho;cases ho;exact ⟨i,_,hg,CC⟩
     | none=>
       rw[hg] at ho;simp only[Cb] at ho;split at ho
       . cases ho;exact CC.elim
       . simp[get] at ho
   . rintro ⟨i,o,ho,CC⟩;exact ⟨i,o,Ci _ _ ho,CC⟩
 refine (hc vs w F M Ak3 Ow (λ i hi=>Rw i (by
   unfold sg at hi ⊢;cases hg:get h i with
   | none=>rw[hg] at hi;exact (hi rfl).elim
   | some o=>rw[Ci _ _ hg];simp)) Vh).mono ?_
 rintro e w' ⟨v,h1,r,F',M',rfl,hR,Up,At8,hK⟩;have r9:=hRn h1 r hR;have Ajv:∀b,F b->w'.heap[b]?=w.heap[b]?:=λ b hb=>hK.Lz b (Ow b hb) (λ ho=>Ak3.IY ho hb)
 let M2:Nat->Mb:=λ i=>if i=id then M id else M' i
 have hM2:∀i,i≠id->M2 i=M' i:=λ i hi=>by simp[M2,hi]
 have Dn:∀i o,get h1 i=some o->i≠id:=λ i o ho e=>by subst e;rw[r9] at ho;cases ho
 have Kk:∀j o,get h1 j=some o->get (h1++[(id,AO.C8 g cs)]) j=some o:=λ j o ho=>by rw[Hh,ho]
 have Azx:get (h1++[(id,AO.C8 g cs)]) id=some (.C8 g cs):=by rw[Hh,r9];simp[Cb]
 have Abf:∀j o,get (h1++[(id,AO.C8 g cs)]) j=some o->get h1 j=some o∨(j=id/\o= .C8 g cs):=by
   intro j o ho;rw[Hh] at ho;cases hg:get h1 j with
   | some o2=>rw[hg] at ho;exact .inl ho
   | none=>
     rw[hg] at ho;simp only[Cb] at ho;split at ho
     . rename_i e;cases ho;exact .inr ⟨e.symm,rfl⟩
     . simp[get] at ho
 have Mc:∀i s,sg h1 i=some s->sg (h1++[(id,AO.C8 g cs)]) i=some s/\M2 i=M' i:=by
   intro i s hs;unfold sg at hs ⊢;cases hg:get h1 i with
   | none=>rw[hg] at hs;cases hs
   | some o=>rw[hg] at hs;rw[Kk _ _ hg];exact ⟨hs,hM2 i (Dn i o hg)⟩
 have Avl:CI M' M2 (sg h1) (sg (h1++[(id,AO.C8 g cs)])):=
   ⟨λ i hi=>⟨(Mc i _ hi).1,by rw[(Mc i _ hi).2]⟩,λ i sz n hi=>⟨n,(Mc i _ hi).1,Ai _,λ _=>(Mc i _ hi).2⟩,λ i sz n kk hi=>⟨n,kk,(Mc i _ hi).1,Ai _,Ai _,λ _=>by rw[(Mc i _ hi).2];exact ⟨rfl,rfl⟩,λ _=>by rw[(Mc i _ hi).2]⟩⟩
 refine ⟨v,h1++[(id,.C8 g cs)],r,F',M2,rfl,⟨h1,hR,rfl⟩,⟨λ j o ho=>?_,λ i o i' o' b ho MM CC Eh=>?_⟩,At8.keep (λ _ _=>rfl) (λ _ h=>h) Avl,?_⟩
 . rcases Abf j o ho with h2 | ⟨rfl,rfl⟩
   . have h3:=Up.obj j o h2;rw[hM2 j (Dn j o h2)];exact h3.keep (λ _ _=>rfl) (λ _ h=>h) Avl (λ b CC=>⟨rfl,Up.IY ⟨j,o,h2,CC⟩⟩)
   . obtain ⟨h4,row,t,fr,h5,h7,h6⟩:=Lw.obj j _ hgl;exact ⟨hK.F0 _ h4,row,t,fr,by rw[Ajv _ h4];exact h5,h7,λ q c hq=>(h6 q c hq).keep Ajv hK.F0⟩
 . rcases Abf i o ho with h2 | ⟨rfl,rfl⟩
   . rcases Abf i' o' MM with h3 | ⟨rfl,rfl⟩
     . rw[hM2 i (Dn i o h2)] at CC;rw[hM2 i' (Dn i' o' h3)] at Eh;exact Up.inj i o i' o' b h2 h3 CC Eh
     . exact Eh.elim
   . exact CC.elim
 . refine ⟨hK.os,hK.tape,hK.output,hK.size,λ b hb hO=>hK.Lz b hb (λ h2=>hO ((Ajp b).2 h2)),hK.F0,λ b hb=>?_,hK.Fl,?_,?_,Rw⟩
   . rcases hK.Fn b hb with h2 | h2 | h2
     . exact .inl h2
     . exact .inr (.inl ((Ajp b).2 h2))
     . exact .inr (.inr h2)
   . rintro b ⟨i,o,ho,CC⟩;rcases Abf i o ho with h2 | ⟨rfl,rfl⟩
     . rw[hM2 i (Dn i o h2)] at CC;rcases hK.own _ ⟨i,o,h2,CC⟩ with h3 | h3
       . exact .inl ((Ajp _).2 h3)
       . exact .inr h3
     . exact CC.elim
   . have GY:=hK.UM;refine ⟨λ i hi=>?_,λ i sz n hi=>?_,λ i sz n kk hi=>?_⟩
     . by_cases e:i=id
       . subst e;exact ⟨by simp[sg,Azx,AO.sg],by simp[M2]⟩
       . have EG:sg (h++[(id,AO.C8 g cs)]) i=some .box:=hi;have S4:sg h i=some .box:=by
           clear hi;unfold sg at EG ⊢;rw[Hh] at EG;cases hg:get h i with
           | some o=>rw[hg] at EG;exact EG
           | none=>rw[hg] at EG;simp[Cb,get,Bj e] at EG
         obtain ⟨h2,h3⟩:=GY.1 i S4;exact ⟨(Mc i _ h2).1,by rw[(Mc i _ h2).2];exact h3⟩
     . have e:i≠id:=by rintro rfl;simp[sg,hgl,AO.sg] at hi
       have EG:sg (h++[(id,AO.C8 g cs)]) i=some (.arr sz n):=hi;have S4:sg h i=some (.arr sz n):=by
         clear hi;unfold sg at EG ⊢;rw[Hh] at EG;cases hg:get h i with
         | some o=>rw[hg] at EG;exact EG
         | none=>rw[hg] at EG;simp[Cb,get,Bj e] at EG
       obtain ⟨n',h2,h3,h4⟩:=GY.2.1 i sz n S4;exact ⟨n',(Mc i _ h2).1,h3,λ e2=>by rw[(Mc i _ h2).2];exact h4 e2⟩
     . have e:i≠id:=by rintro rfl;simp[sg,hgl,AO.sg] at hi
       have EG:sg (h++[(id,AO.C8 g cs)]) i=some (.Dj sz n kk):=hi;have S4:sg h i=some (.Dj sz n kk):=by
         clear hi;unfold sg at EG ⊢;rw[Hh] at EG;cases hg:get h i with
         | some o=>rw[hg] at EG;exact EG
         | none=>rw[hg] at EG;simp[Cb,get,Bj e] at EG
       obtain ⟨n',k',h2,h3,h3',h4,h4'⟩:=GY.2.2 i sz n kk S4;exact ⟨n',k',(Mc i _ h2).1,h3,h3',λ e2=>by rw[(Mc i _ h2).2];exact h4 e2,λ e2=>by rw[(Mc i _ h2).2];exact h4' e2⟩
end Go.Am
namespace Go.Am
open Go Go.ChangeShapes Go.RowKit
section
variable {P:Program} {w:World} {F:Nat->Prop} {M:Nat->Mb} {s:Nat->Option Sg} {m:Mb}
def ND(k:IntKind)(zs:List Int):List Pd:=zs.map λ z=> .int k z
theorem Aho{name:String}{k:IntKind}{zs:List Int}{g:Nat}(hg:P.globalNamed name=some g)(hF:F g)(h:Lib.TabIs P w name k zs):Nh F w M s m (.C8 g (ND k zs)):=by
 unfold Lib.TabIs World.var? at h;rw[hg] at h;simp only[Aa] at h;split at h
 . rename_i cs t fr hc;cases h;refine ⟨hF,_,t,fr,hc,by simp[ND],λ j c hj=>?_⟩;simp only[ND,AP,BA] at hj;obtain ⟨z,hz,rfl⟩:=hj;rw[As];simp only[BP,AP,hz,Bk,AY];exact .int k z
 . cases h
theorem Ak5{name:String}{k:IntKind}{zs:List Int}{g:Nat}(hg:P.globalNamed name=some g)(h:Nh F w M s m (.C8 g (ND k zs))):Lib.TabIs P w name k zs:=by
 obtain ⟨_,row,t,fr,h1,h2,h3⟩:=h;unfold Lib.TabIs World.var?;rw[hg];simp only[Aa,h1,Al];apply Array.ext_getElem?;intro j;by_cases hj:j<zs.length
 . have h4:=h3 j (.int k zs[j]) (by simp[ND,hj]);have Cj:j<row.size:=by rw[h2];simpa [ND] using hj
   rw[As,A5 Cj] at h4;rw[A5 Cj];simp only[AY] at h4;simp only[BP,AP,Ax hj,Bk];generalize row[j]=y at h4;cases h4;rfl
 . have Cj:¬j<row.size:=by rw[h2];simpa [ND] using hj
   rw[Array.getElem?_eq_none (by omega)];simp only[BP,AP,List.getElem?_eq_none (Nat.le_of_not_lt hj),Option.map_none]
theorem Aaj{name:String}{k:IntKind}{zs:List Int}{g f:Nat}{args:List D}{out:List UInt8}(hg:P.globalNamed name=some g)(He:Enters P f)
   (hc:∀(vs:Array Value) w F M,IB F w M (sg [(base,AO.C8 g (ND k zs))]) args vs.toList->Lib.TabIs P w name k zs->Calls P f vs w λ e w'=>e= .returned (.string ⟨out.toArray⟩)/\∃n os,w'=Sort.grow (w.drewN n) os):
   BV P f args [(base,.C8 g (ND k zs))] λ h r=>h=[(base,.C8 g (ND k zs))]/\r= .p (.str out):=by
 intro vs w F M Lw Ow Rw hd;have ho:=Lw.obj base (.C8 g (ND k zs)) rfl;refine .inl ⟨He vs w,(hc vs w F M hd (Ak5 hg ho)).mono ?_⟩;rintro e w' ⟨rfl,n,os,rfl⟩;have hold:∀b,b<w.heap.size->(Sort.grow (w.drewN n) os).heap[b]?=w.heap[b]?:=λ b hb=>by
   simp[Sort.grow,World.drewN,Array.getElem?_append,hb]
 have LD:∀b,¬Ev M [(base,AO.C8 g (ND k zs))] b:=by
   rintro b ⟨i,o,h1,h2⟩;rw[Cb] at h1;split at h1
   . cases h1;exact h2
   . simp[get] at h1
 refine ⟨_,_,_,F,M,rfl,⟨rfl,rfl⟩,Lw.keep (λ b hb=>hold b (Ow b hb)) (λ b hb=>(LD b hb).elim),.p (.str out),⟨rfl,rfl,rfl,?_,λ b hb _=>hold b hb,λ _ h=>h,λ _ h=> .inl h,?_,λ b hb=>(LD b hb).elim,CI.refl _ _,Rw⟩⟩
 . simp[Sort.grow,World.drewN]
 . intro b hb;have:=Ow b hb;simp[Sort.grow,World.drewN];omega
theorem ZH{g f:Nat}(hg:P.globalNamed "internal/strconv.uint64pow10" =some g)(He:Enters P f)
   (hc:∀(n:Int) (w:World),-9223372036854775808<=n->n<=9223372036854775807->Lib.TabIs P w "internal/strconv.uint64pow10" .u64 Lib.pow10Tab->
     Calls P f #[.int .i64 n] w λ e w'=>e= .returned (.string ⟨(Lib.itoa n).toArray⟩)/\∃k os,w'=Sort.grow (w.drewN k) os)
   (n:Int) (h0:-9223372036854775808<=n) (h1:n<=9223372036854775807):
   BV P f [.p (.int .i64 n)] [(base,.C8 g (ND .u64 Lib.pow10Tab))] λ h r=>h=[(base,.C8 g (ND .u64 Lib.pow10Tab))]/\r= .p (.str (Lib.itoa n)):=by
 refine Aaj hg He λ vs w F M hd ht=>?_;have hl:=hd.1;have h2:=hd.2 0 _ rfl;obtain ⟨v,rfl⟩:∃v,vs=#[v]:=by
   obtain ⟨l⟩:=vs
   match l,hl with
   | [v],_=>exact ⟨v,rfl⟩
 have e:v= .int .i64 n:=by
   simp only[A2] at h2;cases h2 with | p h=>cases h;rfl
 subst e;exact hc n w h0 h1 ht
end
section
variable {H:Type} {enc:TypeId×Value->H} {P:Program} {W:World}
theorem o4{bs:Nat}{f:FuncId}{fn:Func}{s:ChangeSpec}{args:Array Value}{ds gs:List (DataW H)}{before:List MemPlace}{tb:TypeId}{g:Nat}{cs:List Pd}
   (I4:∀(j:Nat) t v,fn.params[j]?=some t->args[j]?=some v->Value.okWide P W .any bs t v)
   (hW:DataW.Whole enc P fn.params.toList s.vars false W args.toList ds gs before) (hv:s.vars=[])
   (ht:fn.params.toList.all (T7 P)=true) (Rx:fn.resultTypes=#[tb]) (htb:P.underlying tb=some .bool)
   (hs:s.fn H ds={results:=[.lit (.bool true)],args:=ds})
   (He:Enters P f) (hgl:∀(M:Nat->Mb) s m,Nh (λ b=>b<W.heap.size) W M s m (.C8 g cs))
   (hc:BV P f (ds.map Amv) [(base,.C8 g cs)] λ h r=>h=[(base,.C8 g cs)]/\r= .p (.bool true)):
   Calls P f args W λ e W'=>∃v,e= .returned v/\s.post enc P fn false true false false W args v W':=by
 have hW0:=hW;obtain ⟨p,q,hA,hV,rfl,hfz,hnd⟩:=hW;rw[hv] at hV;obtain ⟨rfl,rfl⟩:=trodVars_none hV;have Cj:∀x∈p,x.block<W.heap.size:=λ x hx=>hW0.lt x (by simp[hx]);have Ci:∀i o,get [(base,AO.C8 g cs)] i=some o->i=base/\o= .C8 g cs:=by
   intro i o h1;rw[Cb] at h1;split at h1
   . rename_i e;cases h1;exact ⟨e.symm,rfl⟩
   . simp[get] at h1
 have LD:∀(M:Nat->Mb) b,¬Ev M [(base,AO.C8 g cs)] b:=by
   rintro M b ⟨i,o,h1,h2⟩;obtain ⟨_,rfl⟩:=Ci i o h1;exact h2
 have Yx:=(hc args W (λ b=>b<W.heap.size) (λ _=>⟨0,0,[]⟩) ⟨λ id o h=>by obtain ⟨_,rfl⟩:=Ci id o h;exact hgl _ _ _,λ id o N1 o' b h _ h2=>by obtain ⟨_,rfl⟩:=Ci id o h;exact h2.elim⟩ (λ _ h=>h)
   (λ id h=>by
     unfold sg at h;cases h1:get [(base,AO.C8 g cs)] id with
     | none=>rw[h1] at h;exact (h rfl).elim
     | some o=>obtain ⟨rfl,_⟩:=Ci id o h1;exact Ai _)
   (TM ht (λ j t v h1 h2=>I4 j t v (by simpa using h1) (by simpa using h2)) hA))
 have K1:=Yx.resolve_right (λ ⟨v,w',h1,_⟩=>by rw[He] at h1;cases h1);refine K1.2.mono ?_;rintro e W' ⟨v,h',r,F',M',rfl,⟨rfl,rfl⟩,_,hd,hk⟩;obtain rfl:v= .bool true:=by cases hd with | p hd=>cases hd;rfl
 have hold:∀b,b<W.heap.size->W'.heap[b]?=W.heap[b]?:=λ b hb=>hk.Lz b hb (LD _ b);refine ⟨_,rfl,ds,[],p++[],[],p,[],by simpa using hW0,?_,?_,?_,Yk hk.os hk.output hold _,λ h=>by cases h⟩
 . rw[List.append_nil,hs,Rx];exact trodAll_cons_mk (shut_bool htb _) trodAll_mk0
 . rw[List.append_nil,hs];exact VQ hold ht hA (λ x hx=>by simpa using Cj x hx) Cj
 . rw[List.append_nil,hs,hv];rfl
end
end Go.Am
namespace Go.Am
open Go Go.ChangeShapes Go.RowKit
section
variable {P:Program}
theorem Lc{f:FuncId}{args:List D}{h:Hp}{out:Pd}(He:Enters P f)
   (hc:∀(vs:Array Value) w F M,HR F w M h->(∀b,F b->b<w.heap.size)->IB F w M (sg h) args vs.toList->
     Calls P f vs w λ e w'=>∃v,e= .returned v/\PR (λ _=>False) w' out v/\Below w.heap.size w w'):
   BV P f args h λ h' r=>h'=h/\r= .p out:=by
 intro vs w F M Lw Ow Rw hd;refine .inl ⟨He vs w,(hc vs w F M Lw Ow hd).mono ?_⟩;rintro e w' ⟨v,rfl,hp,hb⟩;have hold:∀b,b<w.heap.size->w'.heap[b]?=w.heap[b]?:=hb.block;refine ⟨_,_,_,F,M,rfl,⟨rfl,rfl⟩,Lw.keep (λ b hb=>hold b (Ow b hb)) (λ b hb=>hold b (Lw.lt hb)),.p (hp.keep (λ _ h=>h.elim) (λ _ h=>h.elim)),⟨hb.os,hb.tape,hb.output,hb.size,λ b hb _=>hold b hb,λ _ h=>h,λ _ h=> .inl h,?_,λ b hb=> .inl hb,CI.refl _ _,Rw⟩⟩;intro b TZ;exact Nat.lt_of_lt_of_le (Ow b TZ) hb.size
theorem Aa0{F:Nat->Prop}{w:World}{M:Nat->Mb}{s:Nat->Option Sg}{l:List UInt8}{v:Value}(h:DR F w M s (.p (.str l)) v):v= .string ⟨l.toArray⟩:=by
 cases h with | p h=>cases h;rfl
theorem Atf{F:Nat->Prop}{w:World}{M:Nat->Mb}{s:Nat->Option Sg}{k:IntKind}{n:Int}{v:Value}(h:DR F w M s (.p (.int k n)) v):v= .int k n:=by
 cases h with | p h=>cases h;rfl
theorem W3{F:Nat->Prop}{w:World}{M:Nat->Mb}{s:Nat->Option Sg}{x y:D}{vs:Array Value}(h:IB F w M s [x,y] vs.toList):∃a b,vs=#[a,b]/\DR F w M s x a/\DR F w M s y b:=by
 have hl:=h.1;obtain ⟨a,b,rfl⟩:∃a b,vs=#[a,b]:=by
   obtain ⟨l⟩:=vs
   match l,hl with
   | [a,b],_=>exact ⟨a,b,rfl⟩
 exact ⟨a,b,rfl,h.2 0 _ rfl,h.2 1 _ rfl⟩
theorem Aru{w:World}{name:String}{k:IntKind}{zs:List Int}{g:Nat}(hg:P.globalNamed name=some g)(h:Lib.TabIs P w name k zs):g<w.heap.size:=by
 unfold Lib.TabIs World.var? at h;rw[hg] at h;simp only[Aa] at h;split at h
 . rename_i cs t fr hc;exact (A8.1 hc).1
 . cases h
theorem XO{W:World}{name:String}{k:IntKind}{zs:List Int}{l:List (String×DataW Unit)}{keep:String×DataW Unit->Bool}{g:Nat}{t e:TypeId}{n:Nat}(h:laidMetH P l W)(hk:l.filter keep=[(name,Lib.tabData k zs)])
   (hh:(Lib.tabData k zs:DataW Unit).handleName?=none)
   (hg:P.globalNamed name=some g) (hty:(P.globals[g]?).map (·.type)=some t) (ht:P.underlying t=some (.array n e)) (he:P.underlying e=some (.int k)) (hce:P.cellsOf e=1) (hct:P.cellsOf t=n):Lib.TabIs P W name k zs:=by
 have h1:=h.filter keep;rw[hk] at h1;unfold laidMetH at h1;simp only[List.filter_cons,hh,Ba,AJ,A7,List.filter_nil] at h1;exact Lib.tabIs_of_head hg hty ht he hce hct h1
end
end Go.Am
namespace Go.Am
open Go Go.ChangeShapes Go.RowKit
section
variable {H:Type} {enc:TypeId×Value->H} {P:Program} {W:World}
end
end Go.Am
namespace Go.Am
open Go
section
variable {P:Program} {c:Ctx} {st:St} {a:Act} {w w':World} {F:Nat->Prop} {M:Nat->Mb} {s:Nat->Option Sg}
def Fz(F:Nat->Prop)(w w':World):Prop:=∀b row t fr,F b->w.heap[b]?=some (.cells row t fr)->∃fr',w'.heap[b]?=some (.cells row t fr')
theorem PR.fz{x:Pd}{v:Value}(h:PR F w x v)(hs:Fz F w w'):PR F w' x v:=by
 induction h with
 | int k n=>exact .int k n
 | bool b=>exact .bool b
 | str l=>exact .str l
 | UK a cap=>exact .UK a cap
 | sl es b off cap sz row t fr hb hh hc hz hi hp ih=>
   obtain ⟨fr',h'⟩:=hs b row t fr hb hh;exact .sl es b off cap sz row t fr' hb h' hc hz hi ih
theorem DR.fz{d:D}{v:Value}(h:DR F w M s d v)(hs:Fz F w w'):DR F w' M s d v:=by
 induction h with
 | p h=>exact .p (h.fz hs)
 | agg cs vs hl _ ih=>exact .agg cs vs hl ih
 | De cs vs hl _ ih=>exact .De cs vs hl ih
 | cl es a h hn=>exact .cl es a (h.fz hs) hn
 | cz es a h=>exact .cz es a (h.fz hs)
 | ref id off len N sz n v h1 hN hv h2=>exact .ref id off len N sz n v h1 hN hv h2
 | ptr id off h1=>exact .ptr id off h1
 | pe cs b off row t fr hb hh hi hp=>
   obtain ⟨fr',h'⟩:=hs b row t fr hb hh;exact .pe cs b off row t fr' hb h' hi (λ j x hx=>(hp j x hx).fz hs)
 | ea id i c N sz n v h1 hN hv h2=>exact .ea id i c N sz n v h1 hN hv h2
 | fn f cap vs hl _ ih=>exact .fn f cap vs hl ih
 | np=>exact .np
 | mv id h1=>exact .mv id h1
 | Dk id n sz m k v hs hN hv h=>exact .Dk id n sz m k v hs hN hv h
 | Ls id i n sz m k b hs hN hi h=>exact .Ls id i n sz m k b hs hN hi h
 | nr id i len q sz m k v hs hN hv h=>exact .nr id i len q sz m k v hs hN hv h
 | PU v h=>exact .PU v h
 | bad v=>exact .bad v
theorem Nh.fz{m:Mb}{o:AO}(h:Nh F w M s m o)(hs:Fz F w w')(hn:∀b,¬F b->w'.heap[b]?=w.heap[b]?):Nh F w' M s m o:=by
 cases o with
 | box cs ty=>
   obtain ⟨h1,row,t,h2,h3,h4⟩:=h;exact ⟨h1,row,t,by rw[hn _ h1];exact h2,h3,λ j d hd=>⟨(h4.1 j d hd).1.fz hs,(h4.1 j d hd).2⟩,h4.2⟩
 | arr t sz es=>
   obtain ⟨h1,h2,GZ,h3,h4⟩:=h;refine ⟨h1,h2,GZ,h3,λ hc=>?_⟩;obtain ⟨h5,row,h6,h7,h8⟩:=h4 hc;exact ⟨h5,row,h6.keep (hn _ h5),h7,λ i e j x he hj=>(h8 i e j x he hj).fz hs⟩
 | Lo sz es=>
   obtain ⟨h1,h2,h3,h4⟩:=h;refine ⟨h1,h2,h3,λ hc=>?_⟩;obtain ⟨h5,row,t,fr,h6,h7,h8⟩:=h4 hc;obtain ⟨fr',h'⟩:=hs _ row t fr h5 h6;exact ⟨h5,row,t,fr',h',h7,λ i e j x he hj=>(h8 i e j x he hj).fz hs⟩
 | iter l pos=>
   obtain ⟨h1,h2⟩:=h;exact ⟨h1,by rw[hn _ h1];exact h2⟩
 | C8 g cs=>
   obtain ⟨h1,row,t,fr,h2,h4,h3⟩:=h;obtain ⟨fr',h'⟩:=hs _ row t fr h1 h2;exact ⟨h1,row,t,fr',h',h4,λ j x hx=>(h3 j x hx).fz hs⟩
 | E4 o=>exact o.Ape h hs hn
 | mp l=>
   obtain ⟨h1,⟨es,clock,h2,h3⟩,h4⟩:=h;exact ⟨h1,⟨es,clock,by rw[hn _ h1];exact h2,h3⟩,h4⟩
 | Dj t e sz k rows hole=>
   refine ⟨h.pos,h.xl,h.le,h.max,λ hc=>?_,λ i r bc h1 h2 h3=>?_,h.n8,h.dis,h.out⟩
   . obtain ⟨h1,row,h2,h3⟩:=h.outer hc;exact ⟨h1,row,by rw[hn _ h1];exact h2,h3⟩
   . obtain ⟨g1,g2,g2',g3,g4⟩:=h.rows i r bc h1 h2 h3;refine ⟨g1,g2,g2',g3,λ hc=>?_⟩;obtain ⟨h5,row,h6,h7,h8⟩:=g4 hc;exact ⟨h5,row,h6.keep (hn _ h5),h7,λ i e j x he hj=>(h8 i e j x he hj).fz hs⟩
theorem Rel.fz(hr:Rel c st a w F M)(hs:Fz F w w')(hn:∀b,¬F b->w'.heap[b]?=w.heap[b]?)(hos:w'.os=w.os)(O6:w'.tape=w.tape)(Ry:w'.output=w.output)(Ha:w'.heap.size=w.heap.size)
   (hold:∀b,b<c.w0.heap.size->¬c.O0 b->w'.heap[b]?=w.heap[b]?):Rel c st a w' F M:=by
 have hk:=hr.keep;exact ⟨λ t d ht=>(hr.env t d ht).fz hs,hr.size,hr.defers,⟨λ id o ho=>(hr.heap.obj id o ho).fz hs hn,hr.heap.inj⟩,
   ⟨hos.trans hk.os,O6.trans hk.tape,Ry.trans hk.output,by rw[Ha];exact hk.size,λ b hb hO=>(hold b hb hO).trans (hk.Lz b hb hO),hk.F0,hk.Fn,λ b hb=>by rw[Ha];exact hk.Fl b hb,hk.own,hk.UM,hk.Z9⟩⟩
theorem Rf(w:World)(g n b:Nat):(w.freeze ⟨g,0,none⟩ n).heap[b]?=if b=g/\n≠0 then (w.heap[b]?).map (λ | .cells c elem (lo,hi)=> .cells c elem (if lo==hi then (0,0+n) else (min lo 0,max hi (0+n))) | o=>o) else w.heap[b]?:=by
 unfold World.freeze;by_cases hn:n=0
 . rw[if_pos hn,if_neg (by simp[hn])]
 . rw[if_neg hn];simp only[Array.getElem?_modify];by_cases hb:g=b
   . subst hb;rw[if_pos rfl,if_pos ⟨rfl,hn⟩];cases w.heap[g]? with
     | none=>rfl
     | some o=>cases o<;>rfl
   . rw[if_neg hb,if_neg (λ h=>hb h.1.symm)]
theorem RU{F:Nat->Prop}{w:World}{M:Nat->Mb}{s:Nat->Option Sg}{x:D}{vs:Array Value}(h:IB F w M s [x] vs.toList):∃v,vs=#[v]/\DR F w M s x v:=by
 have hl:=h.1;obtain ⟨v,rfl⟩:∃v,vs=#[v]:=by
   obtain ⟨l⟩:=vs
   match l,hl with
   | [v],_=>exact ⟨v,rfl⟩
 exact ⟨v,rfl,h.2 0 _ rfl⟩
theorem Tx{id off:Nat}{v:Value}(h:DR F w M s (.ptr id off) v):v= .pointer (some ⟨(M id).Dp,off,none⟩):=by cases h;rfl
theorem RL{row:Array Value}(h:row.size=2):∃p v,row=#[p,v]:=by
 obtain ⟨l⟩:=row
 match l,h with
 | [p,v],_=>exact ⟨p,v,rfl⟩
theorem ZG{f:FuncId}{args:List D}{h:Hp}{r:D}(He:Enters P f)(hc:∀(vs:Array Value) w F M,HR F w M h->IB F w M (sg h) args vs.toList->∃v,DR F w M (sg h) r v/\Calls P f vs w λ e w'=>e= .returned v/\w'=w):
   BV P f args h λ h' r'=>h'=h/\r'=r:=by
 intro vs w F M Lw Ow Rw hd;obtain ⟨v,hv,PJ⟩:=hc vs w F M Lw hd;refine .inl ⟨He vs w,PJ.mono ?_⟩;rintro e w' ⟨rfl,rfl⟩;exact ⟨v,h,r,F,M,rfl,⟨rfl,rfl⟩,Lw,hv,⟨rfl,rfl,rfl,Ai _,λ _ _ _=>rfl,λ _ h=>h,λ _ h=> .inl h,Ow,λ _ h=> .inl h,CI.refl _ _,Rw⟩⟩
theorem Oq{f:FuncId}{h:Hp}{x:D}{T:TypeId}(He:Enters P f)(hg:get h base=some (.box [.ptr base 0,x] T))
   (hc:∀(b:Nat) (w:World),w.cell? ⟨b,0,none⟩=some (.pointer (some ⟨b,0,none⟩))->Calls P f #[.pointer (some ⟨b,0,none⟩)] w λ e w'=>e= .returned (.tuple #[])/\w'=w):
   BV P f [.ptr base 0] h λ h' r=>h'=h/\r= .De []:=by
 refine ZG He λ vs w F M Lw hd=>⟨.tuple #[],.De [] #[] rfl (λ i d hd=>by simp at hd),?_⟩;obtain ⟨v,rfl,hv⟩:=RU hd;rw[Tx hv];refine hc _ _ ?_;obtain ⟨_,row,t,CS,Ew,CK,_⟩:=Lw.obj base _ hg;obtain ⟨p,q,rfl⟩:=RL Ew;have h0:=(CK 0 _ rfl).1;have:=Tx h0;simp only[World.cell?,CS]
 simpa using this
theorem Ni{f:FuncId}{x:D}{T:TypeId}(He:Enters P f)(hT:T≠0)
   (hc:∀(b:Nat) (w:World),w.cell? ⟨b,0,none⟩=some (.pointer none)->w.shape? b=some (T,2)->w.frozen? ⟨b,0,none⟩=false->Calls P f #[.pointer (some ⟨b,0,none⟩)] w λ e w'=>e= .returned (.tuple #[])/\w'=w.setCell ⟨b,0,none⟩ (.pointer (some ⟨b,0,none⟩))):
   BV P f [.ptr base 0] [(base,.box [.np,.cl []] T)] λ h' r=>h'=[(base,.box [.ptr base 0,.cl []] T)]/\r= .De []:=by
 intro vs w F M Lw Ow Rw hd;obtain ⟨v,rfl,hv⟩:=RU hd;rw[Tx hv];have hg:get [(base,AO.box [.np,.cl []] T)] base=some (.box [.np,.cl []] T):=rfl;obtain ⟨Ll,row,t,CS,Ew,CK,hx⟩:=Lw.obj base _ hg;obtain ⟨p,q,rfl⟩:=RL Ew;rw[show OD T t=T by simp[OD,hT]] at CS;have h0:=(CK 0 _ rfl).1;have hp:p= .pointer none:=by
   have:(#[p,q]:Array Value).getD 0 undef=p:=rfl;rw[this] at h0;cases h0;rfl
 subst hp;refine .inl ⟨He _ w,(hc _ w ?_ ?_ ?_).mono ?_⟩
 . simp[World.cell?,CS]
 . simp[World.shape?,CS]
 . simp[World.frozen?,CS]
 rintro e w' ⟨rfl,rfl⟩;have E9:w.setCell ⟨(M base).Dp,0,none⟩ (.pointer (some ⟨(M base).Dp,0,none⟩))=w.setRow (M base).Dp #[.pointer (some ⟨(M base).Dp,0,none⟩),q]:=by
   unfold World.setCell World.setRow
   congr 1
   apply Array.ext_getElem?;intro j;simp only[Array.getElem?_modify];by_cases hj:(M base).Dp=j
   . subst hj;rw[if_pos rfl,if_pos rfl,CS];rfl
   . rw[if_neg hj,if_neg hj]
 rw[E9];have hr0:=Rel.start (args:=[]) (vs:=#[]) (n:=0) Lw Ow Rw ⟨rfl,λ i d hd=>by simp at hd⟩ (AG _);obtain ⟨w1,II,Ia⟩:=hr0.XQ (P:=P) (id:=base) (off:=0) (cs:=[.ptr base 0]) (vs:=[.pointer (some ⟨(M base).Dp,0,none⟩)]) hg ⟨rfl,λ i d hd=>by
   cases i with
   | zero=>simp only[AK,Al] at hd;subst hd;exact .ptr base 0 rfl
   | succ i=>simp at hd⟩ rfl (by simp)
 have Dr:=run_storeCells_at P (M base).Dp 0 T [.pointer (some ⟨(M base).Dp,0,none⟩)] 0 #[.pointer none,q] w CS (by simp) (by simp[Value.oneCell']);simp only[Bh] at Dr;rw[Dr] at II;cases II;refine ⟨_,_,.De [],F,M,rfl,⟨?_,rfl⟩,Ia.heap,.De [] #[] rfl (λ i d hd=>by simp at hd),Ia.keep⟩;cases T with
 | zero=>exact (hT rfl).elim
 | succ T=>simp[Co,Ke,D.WB]
theorem TV{f:FuncId}{e T:TypeId}{l:List UInt8}{px:D}(He:Enters P f)(hl:l≠[])
   (hc:∀(b g n cap:Nat) (p:Value) (cur:Array Value) (T:TypeId) (w:World) (fr:Nat×Nat),w.heap[b]?=some (.cells #[p,.slice (some ⟨g,0,none⟩) n cap] T (0,0))->n=l.length->w.heap[g]?=some (.cells cur e fr)->n<=cap->cap<=maxLen->cur.size=cap->
     (∀(j:Nat) (x:UInt8),l[j]?=some x->cur[j]?=some (Value.int .u8 x.toNat))->Calls P f #[.pointer (some ⟨b,0,none⟩)] w λ e w'=>e= .returned (.string ⟨l.toArray⟩)/\w'=w.drew.freeze ⟨g,0,none⟩ l.length):
   BV P f [.ptr base 0] [(base,.box [px,.ref (base+1) 0 l.length l.length] T),(base+1,.arr e 1 (DX l))]
     λ h' r=>h'=[(base,.box [px,.ref (base+1) 0 l.length l.length] T),(base+1,.Lo 1 (DX l))]/\r= .p (.str l):=by
 intro vs w F M Lw Ow Rw hd;obtain ⟨v,rfl,hv⟩:=RU hd;rw[Tx hv];have hll:l.length≠0:=by simpa using hl
 have hel:(DX l).length=l.length:=by simp[DX]
 have hg0:get [(base,AO.box [px,.ref (base+1) 0 l.length l.length] T),(base+1,.arr e 1 (DX l))] base=some (.box [px,.ref (base+1) 0 l.length l.length] T):=rfl;have Qu:get [(base,AO.box [px,.ref (base+1) 0 l.length l.length] T),(base+1,.arr e 1 (DX l))] (base+1)=some (.arr e 1 (DX l)):=rfl;obtain ⟨Ll,row,t,CS,Ew,CK,_⟩:=Lw.obj base _ hg0;obtain ⟨p,q,rfl⟩:=RL Ew;obtain ⟨_,h2,h3,_,h5⟩:=Lw.obj (base+1) _ Qu;have h3':=h3;have h6:=(CK 1 _ rfl).1;have e1:(#[p,q]:Array Value).getD 1 undef=q:=rfl;rw[e1] at h6;obtain ⟨ad,cap,rfl,h7,h8,h9,Jq⟩:QW (M (base+1)) 1 l.length 0 l.length q:=by
   cases h6 with
   | ref _ _ _ _ sz n _ hs hN RQ Q8=>
     have Md:sg [(base,AO.box [px,.ref (base+1) 0 l.length l.length] T),(base+1,.arr e 1 (DX l))] (base+1)=some (.arr 1 l.length):=by rw[sg,Qu];simp[AO.sg,hel]
     rw[Md] at hs;simp only[Al,Sg.arr.injEq] at hs;obtain ⟨rfl,rfl⟩:=hs;exact Q8 rfl
 have Ii:cap≠0:=λ h0=>hll (Nat.le_zero.1 (h0 ▸ h8));obtain rfl:=Jq.resolve_left Ii;have Awg:(M (base+1)).cap≠0:=λ h0=>Ii ((A0 cap).symm.trans (h9.trans h0));clear h7 h3;obtain ⟨hnG,cur,⟨frc,Ba4,_⟩,u6,WQ⟩:=h5 Awg;rw[Nat.zero_mul] at CS;refine .inl ⟨He _ w,(hc _ _ _ _ _ cur _ w frc CS rfl Ba4 h8 (by have:=(A0 cap).symm.trans h9;rw[this];exact h3') (by have:=(A0 cap).symm.trans h9;rw[u6,this,Nat.mul_one]) ?_).mono ?_⟩
 . intro j x hx;have Cj:=(An.1 hx).1;have ZQ:=WQ j [.int .u8 x.toNat] 0 (.int .u8 x.toNat) (by simp[DX,hx]) rfl;have RB:j<cur.size:=by omega
   simp only[Nat.mul_one,Bh] at ZQ;rw[As,A5 RB] at ZQ;rw[A5 RB];simp only[AY] at ZQ;generalize cur[j]=y at ZQ;cases ZQ;rfl
 rintro e2 w' ⟨rfl,rfl⟩;have hr0:=Rel.start (args:=[]) (vs:=#[]) (n:=0) Lw Ow Rw ⟨rfl,λ i d hd=>by simp at hd⟩ (AG _);have Ia:=hr0.freeze Qu;have LB:=Ia.drew;have CC:Ev M [(base,AO.box [px,.ref (base+1) 0 l.length l.length] T),(base+1,.arr e 1 (DX l))] (M (base+1)).Dp:=⟨base+1,_,Qu,by show (M (base+1)).cap≠0;omega,rfl⟩;have Ajw:∀b,b≠(M (base+1)).Dp->(w.drew.freeze ⟨(M (base+1)).Dp,0,none⟩ l.length).heap[b]?=w.heap[b]?:=λ b hb=>by
   rw[Rf,if_neg (λ h=>hb h.1)];rfl
 have hr3:=LB.fz (w':=w.drew.freeze ⟨(M (base+1)).Dp,0,none⟩ l.length) (λ b row t fr hF hb=>by
     by_cases e3:b=(M (base+1)).Dp
     . subst e3;rw[Rf,if_pos ⟨rfl,hll⟩];have Qw:w.drew.heap[(M (base+1)).Dp]?=some (.cells row t fr):=hb;rw[Qw];obtain ⟨lo,hi⟩:=fr;exact ⟨_,rfl⟩
     . exact ⟨fr,by rw[Ajw b e3];exact hb⟩) (λ b hF=>by
     by_cases e3:b=(M (base+1)).Dp
     . exact (hF (.inr ⟨by omega,e3⟩)).elim
     . exact Ajw b e3) (by unfold World.freeze;split<;>rfl) (by unfold World.freeze;split<;>rfl) (by unfold World.freeze;split<;>rfl) (by unfold World.freeze;split<;>simp<;>rfl)
   (λ b hb hO=>by
     by_cases e3:b=(M (base+1)).Dp
     . subst e3;exact (hO CC).elim
     . exact Ajw b e3)
 refine ⟨_,_,.p (.str l),_,M,rfl,⟨?_,rfl⟩,hr3.heap,.p (.str l),hr3.keep⟩;simp[froze,Qu,Co]
theorem Oo{f:FuncId}{T:TypeId}(He:Enters P f)(hT:T≠0)
   (hc:∀(b:Nat) (p:Value) (T:TypeId) (w:World),w.heap[b]?=some (.cells #[p,.slice none 0 0] T (0,0))->Calls P f #[.pointer (some ⟨b,0,none⟩)] w λ e w'=>e= .returned (.string ⟨#[]⟩)/\w'=w.drew):
   BV P f [.ptr base 0] [(base,.box [.np,.cl []] T)] λ h' r=>h'=[(base,.box [.np,.cl []] T)]/\r= .p (.str []):=by
 intro vs w F M Lw Ow Rw hd;obtain ⟨v,rfl,hv⟩:=RU hd;rw[Tx hv];have hg:get [(base,AO.box [.np,.cl []] T)] base=some (.box [.np,.cl []] T):=rfl;obtain ⟨Ll,row,t,CS,Ew,CK,hx⟩:=Lw.obj base _ hg;obtain ⟨p,q,rfl⟩:=RL Ew;have hq:q= .slice none 0 0:=hx hT rfl 1 rfl;subst hq;refine .inl ⟨He _ w,(hc _ _ _ w CS).mono ?_⟩;rintro e w' ⟨rfl,rfl⟩;have hr0:=Rel.start (args:=[]) (vs:=#[]) (n:=0) Lw Ow Rw ⟨rfl,λ i d hd=>by simp at hd⟩ (AG _);have Ia:=hr0.drew;exact ⟨_,_,.p (.str []),F,M,rfl,⟨rfl,rfl⟩,Ia.heap,.p (.str []),Ia.keep⟩
end
end Go.Am
namespace Go.Am
open Go
section
variable {P:Program} {ops rest:List Oper} {k:Kt} {st:St} {o:Oper}
theorem VW{c:Call}{x:Operand}{id t:Nat}{l:List (Pd×Pd)}{kk:KK}{z:Pd}(ho:o.op= .call c)(hc:c.callee= .builtin .len)(ha:c.args=#[x])(ht:c.argTypes=#[t])
   (hm:mapOf P t=some (kk,z)) (hx:ev st x= .mv id) (hg:get st.hp id=some (.mp l)) (h:O P true ops rest k (st.put o.dst (.p (.int .i64 (l.length:Nat))))):Af P true ops rest k o st .fail:=by
 refine Ji λ ct a w F M Q hr=>?_;obtain ⟨kt,e,d,ii,zv,hu,hk,hd,EG,hz,rfl,hzf⟩:=KS hm;obtain ⟨Ll,⟨es,clock,hb,KZ⟩,Ov⟩:=hr.heap.obj id _ hg;have hv:=B9 hr x;rw[hx] at hv;generalize ML:a.eval x=v at hv;cases hv with
 | mv _ hs=>
   have hlen:es.size=l.length:=by have:=congrArg List.length KZ;simpa using this
   unfold Oper.wp;have hex:(execOp a.eval o).run P w= .ok (.value (.int .i64 (l.length:Nat))) w:=by
     simp[execOp,ho,hc,ha,ht,ML,resolve,invoke,builtin,Builtin.len_,run_underlying hu,MapKept.run_getObj_map hb,Result.andThen,goInt,hlen]
   rw[hex];exact ⟨_,F,M,h,hr.put (.p (.int _ _)) o.dst⟩
def M9(k:Pd):List (Pd×Pd)->List (Pd×Pd)
 | []=>[]
 | (k',v')::r=>if Pd.same k k'=some true then r else (k',v')::M9 k r
theorem U4{kk:KK}{key:Pd}{d:TypeDesc}(hd:match kk with | .int x=>d= .int x | .str=>d= .string)(hf:kk.fit key=true):
   ∀(es:List MapEntry) (l:List (Pd×Pd)) (n:Nat),es.map (λ e=>(e.key,e.val))=l.map (λ p=>(p.1.val,p.2.val))->Qd key l->
     (∃v i,Instr.findNow d key.val es n=some (some (n+i,v))/\(es.eraseIdx i).map (λ e=>(e.key,e.val))=(M9 key l).map (λ p=>(p.1.val,p.2.val)))∨
     (Instr.findNow d key.val es n=some none/\M9 key l=l)
 | [],[],n,_,_=> .inr ⟨rfl,rfl⟩
 | [],_::_,n,h,_=>by simp at h
 | _::_,[],n,h,_=>by simp at h
 | e::es,(q,v)::l,n,h,hm=>by
   simp only[AD,List.cons.injEq,Prod.mk.injEq] at h;obtain ⟨⟨h1,h2⟩,h3⟩:=h;unfold Qd Lj at hm;cases hs:Pd.same key q with
   | none=>rw[hs] at hm;simp at hm
   | some b=>
     have hn:=Pd.Si hd hf hs;cases b with
     | true=>exact .inl ⟨e.val,0,by simp[Instr.findNow,h1,hn],by simp[M9,hs,h3]⟩
     | false=>
       rw[hs] at hm;rcases U4 hd hf es l (n+1) h3 hm with ⟨v',i,g1,g2⟩ | ⟨g1,g2⟩
       . refine .inl ⟨v',i+1,?_,by simp[M9,hs,h1,h2,g2]⟩;simp only[Instr.findNow,h1,hn,g1];congr 3;omega
       . exact .inr ⟨by simp only[Instr.findNow,h1,hn,g1],by simp[M9,hs,g2]⟩
theorem QP{c:Call}{x y:Operand}{id t t2:Nat}{l:List (Pd×Pd)}{kk:KK}{z key:Pd}(ho:o.op= .call c)(hc:c.callee= .builtin .delete)(ha:c.args=#[x,y])(ht:c.argTypes=#[t,t2])
   (hm:mapOf P t=some (kk,z)) (hx:ev st x= .mv id) (hy:ev st y= .p key) (hf:kk.fit key=true) (hg:get st.hp id=some (.mp l)) (Nd:Qd key l)
   (h:O P true ops rest k (({st with hp:=Co st.hp id (.mp (M9 key l))}:St).put o.dst (.De []))):Af P true ops rest k o st .fail:=by
 refine Ji λ ct a w F M Q hr=>?_;obtain ⟨kt,e,d,ii,zv,hu,hk,hd,EG,hz,rfl,hzf⟩:=KS hm;obtain ⟨Ll,⟨es,clock,hb,KZ⟩,Ov⟩:=hr.heap.obj id _ hg;have hv:=B9 hr x;rw[hx] at hv;generalize ML:a.eval x=v at hv;have RQ:=B9 hr y;rw[hy] at RQ;generalize hvy:a.eval y=v2 at RQ;have Ci:∀j,get (Co st.hp id (.mp (M9 key l))) j=if j=id then some (.mp (M9 key l)) else get st.hp j:=CH _ _ _
 have Hb:=Ds Ci hg rfl;cases hv with
 | mv _ hs=>
   cases RQ with
   | p hi=>
     have hvi:v2=key.val:=by cases hi<;>first | rfl | (cases kk<;>simp[KK.fit] at hf)
     subst hvi;have hck:∀b,(Instr.checkKey b 10000 kt key.val).run P w= .ok () w:=λ b=>MapKept.run_checkKey hk (Qg hd hf) b 9999;have Ap4:∀p∈M9 key l,p.2.flat=true:=by
       clear Ci Hb KZ hg Nd h
       induction l with
       | nil=>intro p hp;simp[M9] at hp
       | cons q r ih=>
         intro p hp;simp only[M9] at hp;split at hp
         . exact Ov p (by simp[hp])
         . rcases AE.1 hp with rfl | hp
           . exact Ov _ (by simp)
           . exact ih (λ p hp=>Ov p (by simp[hp])) p hp
     have hch:∀(Nf:Array MapEntry),Nf.toList.map (λ e=>(e.key,e.val))=(M9 key l).map (λ p=>(p.1.val,p.2.val))->
         Rel ct {st with hp:=Co st.hp id (.mp (M9 key l))} a {w with heap:=w.heap.setIfInBounds (M id).Dp (.map Nf clock)} F M:=by
       intro Nf h1;have E9:=MapKept.heap_set (o':= .map Nf clock) hb;refine hr.change (M':=M) Ci (λ _ _=>rfl) (by rw[Hb];exact CI.refl _ _) rfl rfl rfl (by simp) (λ b TZ Dn=>E9.2 b (Dn _ hg)) ⟨Ll,⟨Nf,clock,E9.1,h1⟩,Ap4⟩ (λ b TZ=> .inl ⟨_,hg,TZ⟩)
     unfold Oper.wp;rcases U4 hd hf es.toList l 0 KZ Nd with ⟨v',i,g1,g2⟩ | ⟨g1,g2⟩
     . have hex:(execOp a.eval o).run P w= .ok (.value (.tuple #[])) {w with heap:=w.heap.setIfInBounds (M id).Dp (.map (es.eraseIdxIfInBounds i) clock)}:=by
         simp[execOp,ho,hc,ha,ht,ML,hvy,resolve,invoke,builtin,Builtin.delete_,run_underlying hu,MapKept.run_getObj_map hb,hck,MapKept.run_findKey hk g1,Result.andThen,MapKept.run_setObj_map _ hb]
       rw[hex];exact ⟨_,F,M,h,(hch _ (by rw[Array.toList_eraseIdxIfInBounds];exact g2)).put (.De [] #[] rfl (λ i d hd=>by simp at hd)) o.dst⟩
     . have hex:(execOp a.eval o).run P w= .ok (.value (.tuple #[])) {w with heap:=w.heap.setIfInBounds (M id).Dp (.map es clock)}:=by
         simp[execOp,ho,hc,ha,ht,ML,hvy,resolve,invoke,builtin,Builtin.delete_,run_underlying hu,MapKept.run_getObj_map hb,hck,MapKept.run_findKey hk g1,Result.andThen,MapKept.run_setObj_map _ hb]
       rw[hex];exact ⟨_,F,M,h,(hch _ (by rw[g2];exact KZ)).put (.De [] #[] rfl (λ i d hd=>by simp at hd)) o.dst⟩
end
def JS(m:List (List UInt8×Int)):List (Pd×Pd):=m.map λ p=>(.str p.1,.int .i64 p.2)
def DJ(m:List (List UInt8×Int))(k:List UInt8):Option Int:=(m.find? λ p=>p.1==k).map (·.2)
def HC(m:List (List UInt8×Int))(k:List UInt8)(v:Int):List (List UInt8×Int):=match m with
 | []=>[(k,v)]
 | p::r=>if p.1=k then (k,v)::r else p::HC r k v
theorem Wt(k:List UInt8):∀m,Lj (.str k) (JS m)=some ((DJ m k).map (.int .i64))
 | []=>rfl
 | p::r=>by
   have ih:=Wt k r;simp only[JS,AD,Lj,Pd.same,DJ,List.find?_cons] at ih ⊢;by_cases h:p.1=k
   . simp[h]
   . have h1:(k==p.1)=false:=by simpa using Ne.symm h
     have h2:(p.1==k)=false:=by simpa using h
     rw[h1,h2];exact ih
theorem DE(k:List UInt8)(m):Qd (.str k) (JS m):=by unfold Qd;rw[Wt];rfl
theorem DQ(k:List UInt8)(m):SF (.str k) (JS m)=(DJ m k).map (.int .i64):=by unfold SF;rw[Wt];rfl
theorem SE(k:List UInt8)(v:Int):∀m,Ka (.str k) (.int .i64 v) (JS m)=JS (HC m k v)
 | []=>rfl
 | p::r=>by
   have ih:=SE k v r;simp only[JS] at ih;simp only[JS,AD,Ka,Pd.same,HC];by_cases h:p.1=k
   . simp[h]
   . have h1:(k==p.1)=false:=by simpa using Ne.symm h
     simp[h1,h,ih]
theorem l9(m)(k:List UInt8)(z:Int)(ok:Bool):EC (.int .i64 z) ok ((DJ m k).map (.int .i64))=if ok then .De [.p (.int .i64 ((DJ m k).getD z)),.p (.bool (DJ m k).isSome)] else .p (.int .i64 ((DJ m k).getD z)):=by
 unfold EC;cases DJ m k<;>rfl
theorem Ab4(m):(JS m).length=m.length:=by simp[JS]
theorem Wq:JS []=[]:=rfl
def Ws(m:List (Int×Bool)):List (Pd×Pd):=m.map λ p=>(.int .i64 p.1,.bool p.2)
def Iz(m:List (Int×Bool))(k:Int):Option Bool:=(m.find? λ p=>p.1==k).map (·.2)
def P5(m:List (Int×Bool))(k:Int)(v:Bool):List (Int×Bool):=match m with
 | []=>[(k,v)]
 | p::r=>if p.1=k then (k,v)::r else p::P5 r k v
def Lx(m:List (Int×Bool))(k:Int):List (Int×Bool):=match m with
 | []=>[]
 | p::r=>if p.1=k then r else p::Lx r k
theorem Wu(k:Int):∀m,Lj (.int .i64 k) (Ws m)=some ((Iz m k).map .bool)
 | []=>rfl
 | p::r=>by
   have ih:=Wu k r;simp only[Ws,AD,Lj,Pd.same,Iz,List.find?_cons] at ih ⊢;by_cases h:p.1=k
   . simp[h]
   . have h1:(k==p.1)=false:=by simpa using Ne.symm h
     have h2:(p.1==k)=false:=by simpa using h
     simp only[h1,h2,AL];exact ih
theorem SG(k:Int)(m):Qd (.int .i64 k) (Ws m):=by unfold Qd;rw[Wu];rfl
theorem Aiy(k:Int)(m):SF (.int .i64 k) (Ws m)=(Iz m k).map .bool:=by unfold SF;rw[Wu];rfl
theorem l0(k:Int)(v:Bool):∀m,Ka (.int .i64 k) (.bool v) (Ws m)=Ws (P5 m k v)
 | []=>rfl
 | p::r=>by
   have ih:=l0 k v r;simp only[Ws] at ih;simp only[Ws,AD,Ka,Pd.same,P5];by_cases h:p.1=k
   . simp[h]
   . have h1:(k==p.1)=false:=by simpa using Ne.symm h
     simp[h1,h,ih]
theorem l6(k:Int):∀m,M9 (.int .i64 k) (Ws m)=Ws (Lx m k)
 | []=>rfl
 | p::r=>by
   have ih:=l6 k r;simp only[Ws] at ih;simp only[Ws,AD,M9,Pd.same,Lx];by_cases h:p.1=k
   . simp[h]
   . have h1:(k==p.1)=false:=by simpa using Ne.symm h
     simp[h1,h,ih]
theorem Aj1(m)(k:Int)(z:Bool)(ok:Bool):EC (.bool z) ok ((Iz m k).map .bool)=if ok then .De [.p (.bool ((Iz m k).getD z)),.p (.bool (Iz m k).isSome)] else .p (.bool ((Iz m k).getD z)):=by
 unfold EC;cases Iz m k<;>rfl
theorem Ab5(m):(Ws m).length=m.length:=by simp[Ws]
theorem Wr:Ws []=[]:=rfl
attribute [go_sem] KV JK KK.fit Pd.flat DE DQ SE l9 Ab4 SG Aiy l0 l6 Aj1 Ab5
end Go.Am
namespace Go.Am
open Go
def An3(r:D):Prop:=r= .De []∨∃y,r= .p y
theorem An3.dr{F:Nat->Prop}{w:World}{M M':Nat->Mb}{s s':Nat->Option Sg}{r:D}{v:Value}(h:An3 r)(hd:DR F w M s r v):DR F w M' s' r v:=by
 rcases h with rfl | ⟨y,rfl⟩
 . cases hd with | De _ vs hl hc=>exact .De [] vs hl (λ i c hi=>by simp at hi)
 . cases hd with | p hx=>exact .p hx
theorem TT{P:Program}{f:FuncId}{ps:List Pd}{t e:TypeId}{sz k i n:Nat}{rows:List (List (List Pd))}{es:List (List Pd)}{R:Hp->D->Prop}{R':List (List Pd)->D->Prop}
   (hi:rows[i]?=some es) (hn:n=es.length) (hc:BV P f (.ref 1000000 0 n n::ps.map D.p) [(1000000,.arr e sz es)] R)
   (hR:∀h' r,R h' r->∃Nf,h'=[(1000000,.arr e sz Nf)]/\Nf.length=n/\An3 r/\R' Nf r):
   BV P f (.nr 1000000 i n k::ps.map D.p) [(1000000,.Dj t e sz k rows none)] λ h' r=>∃Nf,h'=[(1000000,.Dj t e sz k (rows.set i Nf) none)]/\Nf.length=n/\R' Nf r:=by
 subst hn;intro vs w F M Lw Ow Rw hd;have hg:get [(1000000,AO.Dj t e sz k rows none)] 1000000=some (.Dj t e sz k rows none):=rfl;have hN:HM F w (M 1000000) t e sz rows none:=Lw.obj 1000000 _ hg;have Cj:i<rows.length:=(An.1 hi).1;obtain ⟨bc,ZP⟩:∃bc,(M 1000000).xs[i]?=some bc:=⟨_,Ax (by rw[hN.xl];exact Cj)⟩;obtain ⟨M1,hM1⟩:∃M1:Nat->Mb,M1=λ _=>⟨bc.1,bc.2,[]⟩:=⟨_,rfl⟩;have Aea:∀j,M1 j=⟨bc.1,bc.2,[]⟩:=λ j=>by rw[hM1]
 have At9:TS F w ⟨bc.1,bc.2,[]⟩ e sz es:=hN.rows i es bc hi ZP (by simp);have Kk:∀{o:AO} {j:Nat} {o2:AO},get [(1000000,o)] j=some o2->j=1000000/\o2=o:=λ {o j o2} h=>by
   simp only[Cb] at h;split at h
   . rename_i e1;cases h;exact ⟨e1.symm,rfl⟩
   . cases h
 have Ak3:HR F w M1 [(1000000,.arr e sz es)]:=by
   refine ⟨λ j o hj=>?_,λ j o j' o' b hj GW _ _=>?_⟩
   . obtain ⟨rfl,rfl⟩:=Kk hj;rw[Aea];exact At9
   . rw[(Kk hj).1,(Kk GW).1]
 have hd0:DR F w M (sg [(1000000,.Dj t e sz k rows none)]) (.nr 1000000 i es.length k) (vs.toList.getD 0 undef):=hd.2 0 _ rfl;have Vh:IB F w M1 (sg [(1000000,.arr e sz es)]) (.ref 1000000 0 es.length es.length::ps.map D.p) vs.toList:=by
   refine ⟨by have:=hd.1;simpa using this,λ j d hj=>?_⟩;cases j with
   | zero=>
     simp only[AK,Al] at hj;subst hj;generalize vs.toList.getD 0 undef=v at hd0;cases hd0 with
     | nr _ _ _ _ Ot m k3 _ Md hN2 hv hl=>
       have ZL:sg [(1000000,AO.Dj t e sz k rows none)] 1000000=some (.Dj sz rows.length k):=rfl;rw[Md] at ZL;simp only[Al,Sg.Dj.injEq] at ZL;obtain ⟨_,_,rfl⟩:=ZL;obtain ⟨bc2,g1,g2,ad,g3,g4⟩:=hl rfl;rw[ZP] at g1;cases g1;exact .ref 1000000 0 _ _ sz es.length _ rfl (Ai _) ⟨_,_,_,g3⟩ (λ _=>⟨ad,bc.2,g3,by omega,g2,by rw[Aea];simp,by rw[Aea];simpa using g4⟩)
   | succ j=>
     have h2:=hd.2 (j+1) d (by simpa using hj);simp only[List.getElem?_cons_succ,AP] at hj;cases hp:ps[j]? with
     | none=>rw[hp] at hj;cases hj
     | some p=>
       rw[hp] at hj;simp only[Bk,Al] at hj;subst hj;cases h2 with | p hx=>exact .p hx
 have Aze:∀id,sg [(1000000,AO.arr e sz es)] id≠none->base<=id:=by
   intro id hs;refine Rw id ?_;unfold sg at hs ⊢;simp only[Cb] at hs ⊢;split
   . simp
   . rename_i h1;rw[if_neg h1] at hs;exact hs
 refine (hc vs w F M1 Ak3 Ow Aze Vh).mono λ ed w' hh=>?_;obtain ⟨v,h',r,F',M',he,hr,Up,Vg,hk⟩:=hh;obtain ⟨Nf,rfl,hlen,hp,hR2⟩:=hR h' r hr;have Jk:M' 1000000=⟨bc.1,bc.2,[]⟩:=by
   obtain ⟨n',g1,g2,g3⟩:=hk.UM.2.1 1000000 sz es.length rfl;have:n'=Nf.length:=by
     have:sg [(1000000,AO.arr e sz Nf)] 1000000=some (.arr sz Nf.length):=rfl;rw[this] at g1;simp only[Al,Sg.arr.injEq] at g1;exact g1.2.symm
   rw[g3 (by omega)];exact Aea _
 have Awj:TS F' w' ⟨bc.1,bc.2,[]⟩ e sz Nf:=by have:=Up.obj 1000000 _ rfl;rw[Jk] at this;exact this
 have As3:∀b,Ev M1 [(1000000,AO.arr e sz es)] b↔bc.2≠0/\b=bc.1:=by
   intro b;constructor
   . rintro ⟨j,o,h1,h2⟩;obtain ⟨rfl,rfl⟩:=Kk h1;rw[Aea] at h2;exact h2
   . intro h;exact ⟨1000000,_,rfl,by rw[Aea];exact h⟩
 have Av0:∀b,Ev M [(1000000,AO.Dj t e sz k rows none)] b↔DA (M 1000000) b:=by
   intro b;constructor
   . rintro ⟨j,o,h1,h2⟩;obtain ⟨rfl,rfl⟩:=Kk h1;exact h2
   . intro h;exact ⟨1000000,_,rfl,h⟩
 have Auz:∀b,Ev M [(1000000,AO.Dj t e sz k (rows.set i Nf) none)] b↔DA (M 1000000) b:=by
   intro b;constructor
   . rintro ⟨j,o,h1,h2⟩;obtain ⟨rfl,rfl⟩:=Kk h1;exact h2
   . intro h;exact ⟨1000000,_,rfl,h⟩
 have other:∀b,DA (M 1000000) b->¬(bc.2≠0/\b=bc.1)->w'.heap[b]?=w.heap[b]?/\¬F' b:=by
   intro b h1 h2;have RB:b<w.heap.size:=hN.lt h1;refine ⟨hk.Lz b RB (λ h3=>h2 ((As3 b).1 h3)),λ h3=>?_⟩;rcases hk.Fn b h3 with h4 | h4 | h4
   all_goals first
     | exact hN.IY h1 h4
     | exact h2 ((As3 b).1 h4)
     | exact absurd RB (Nat.not_lt.2 h4)
 have Ai3:∀{j r'},(rows.set i Nf)[j]?=some r'->(i=j/\r'=Nf)∨(i≠j/\rows[j]?=some r'):=by
   intro j r' h;by_cases e:i=j
   . subst e;rw[BB Cj] at h;exact .inl ⟨rfl,(Ac h).symm⟩
   . rw[List.getElem?_set_ne e] at h;exact .inr ⟨e,h⟩
 have hN':HM F' w' (M 1000000) t e sz (rows.set i Nf) none:=by
   refine ⟨hN.pos,by simpa using hN.xl,by simpa using hN.le,hN.max,λ Ii=>?_,λ j r' b' h1 h2 h3=>?_,λ j b' h1 _=>(by cases h1),hN.dis,hN.out⟩
   . obtain ⟨g1,row,g2,g3,g4⟩:=hN.outer Ii;obtain ⟨g5,g6⟩:=other (M 1000000).Dp (.inl ⟨Ii,rfl⟩) (λ h=>hN.out i bc ZP h.1 Ii h.2.symm);refine ⟨g6,row,by rw[g5];exact g2,g3,λ j r' b' h1 h2 h3=>?_⟩;rcases Ai3 h1 with ⟨rfl,rfl⟩ | ⟨_,h4⟩
     . rw[hlen];exact g4 i es b' hi h2 (by simp)
     . exact g4 j r' b' h4 h2 (by simp)
   . rcases Ai3 h1 with ⟨rfl,rfl⟩ | ⟨Dn,h4⟩
     . rw[ZP] at h2;cases h2;exact Awj
     . refine (hN.rows j r' b' h4 h2 (by simp)).keep (λ b hb=>hk.Lz b (Ow b hb) (λ h=>Ak3.IY h hb)) hk.F0 (λ WQ=>other b'.1 (.inr ⟨j,b',h2,WQ,rfl⟩) (λ h=>hN.dis i j bc b' ZP h2 Dn h.1 WQ h.2.symm))
 refine ⟨v,_,r,F',M,he,⟨Nf,rfl,hlen,hR2⟩,⟨λ j o hj=>?_,λ j o j' o' b hj GW _ _=>?_⟩,hp.dr Vg,?_⟩
 . obtain ⟨rfl,rfl⟩:=Kk hj;exact hN'
 . rw[(Kk hj).1,(Kk GW).1]
 . have Q9:∀b,Ev M1 [(1000000,AO.arr e sz es)] b->Ev M [(1000000,AO.Dj t e sz k rows none)] b:=λ b hb=>(Av0 b).2 (.inr ⟨i,bc,ZP,(As3 b).1 hb⟩);refine ⟨hk.os,hk.tape,hk.output,hk.size,λ b h1 h2=>hk.Lz b h1 (λ h3=>h2 (Q9 b h3)),hk.F0,λ b hb=>?_,hk.Fl,λ b hb=> .inl ((Av0 b).2 ((Auz b).1 hb)),?_,Rw⟩
   . rcases hk.Fn b hb with h4 | h4 | h4
     . exact .inl h4
     . exact .inr (.inl (Q9 b h4))
     . exact .inr (.inr h4)
   . have:sg [(1000000,AO.Dj t e sz k (rows.set i Nf) none)]=sg [(1000000,AO.Dj t e sz k rows none)]:=by
       funext j
       unfold sg;simp only[Cb];split<;>simp[AO.sg]
     show CI M M (sg [(1000000,AO.Dj t e sz k rows none)]) (sg [(1000000,AO.Dj t e sz k (rows.set i Nf) none)])
     rw[this];exact CI.refl _ _
end Go.Am
namespace Go.Am
open Go
section
variable {P:Program} {c:Ctx} {st:St} {a:Act} {w:World} {F:Nat->Prop} {M:Nat->Mb}
theorem Rel.Yd(hr:Rel c st a w F M){q sz:Nat}{e e2:TypeId}(hn:get st.hp q=none)(Ew:0<sz):
   Rel c {st with hp:=(q,.Dj e e2 sz 0 [] none)::st.hp} a w F (Fi M q ⟨0,0,[]⟩)/\∀ad,DR F w (Fi M q ⟨0,0,[]⟩) (sg ((q,.Dj e e2 sz 0 [] none)::st.hp)) (.Dk q 0) (.slice ad 0 0):=by
 have Ci:=K2 st.hp q (.Dj e e2 sz 0 [] none);have hM:∀j,j≠q->Fi M q ⟨0,0,[]⟩ j=M j:=λ j hj=>by simp[Fi,hj]
 have Jk:Fi M q ⟨0,0,[]⟩ q=⟨0,0,[]⟩:=by simp[Fi]
 have GY:=GC Ci hM hn;have LD:∀b,¬DA ⟨0,0,[]⟩ b:=λ b h=>by
   rcases h with ⟨h,_⟩ | ⟨i,bc,h1,_⟩
   . exact h rfl
   . simp at h1
 refine ⟨hr.change Ci hM GY rfl rfl rfl (Ai _) (λ b hb _=>rfl) ?_ (λ b h=>?_),λ ad=>?_⟩
 . rw[Jk];exact ⟨Ew,rfl,by simp,by simp,λ h=>(h rfl).elim,λ i r bc h=>by simp at h,λ i bc h=>(by cases h),λ i j bi bj h=>by simp at h,λ i bi h=>by simp at h⟩
 . rw[Jk] at h;exact (LD b h).elim
 . exact .Dk q 0 sz 0 0 _ (by rw[C1 Ci];simp[AO.sg]) (Ai _) ⟨_,_,rfl,.inl rfl⟩ (λ _=>⟨ad,0,rfl,by omega,by omega,by rw[Jk],.inl rfl⟩)
def SB(e:TypeId):Aqa where
 sg:= .arr 1 1
 holds:=λ F w m=>¬F m.Dp/\m.cap=1/\∃ad,w.heap[m.Dp]?=some (.cells #[.slice ad 0 0] e (0,0))
 FP:=λ m b=>b=m.Dp
 keep:=λ h hw hF ho=>by
   obtain ⟨h1,h2,ad,h3⟩:=h;obtain ⟨h4,h5⟩:=ho _ rfl;exact ⟨h5,h2,ad,by rw[h4];exact h3⟩
 IY:=λ h hb=>by cases hb;exact h.1
 lt:=λ h hb=>by
   cases hb;obtain ⟨h1,h2,ad,h3⟩:=h;exact (A8.1 h3).1
 Ape:=λ h _ h2=>by
   obtain ⟨h1,h3,ad,h4⟩:=h;exact ⟨h1,h3,ad,by rw[h2 _ h1];exact h4⟩
theorem Rel.Aoi(hr:Rel c st a w F M){q:Nat}{e:TypeId}{ad:Option Addr}(hn:get st.hp q=none):
   Rel c {st with hp:=(q,.E4 (SB e))::st.hp} a (w.alloc (.cells #[.slice ad 0 0] e)) F (Fi M q ⟨w.heap.size,1,[]⟩)/\
   DR F (w.alloc (.cells #[.slice ad 0 0] e)) (Fi M q ⟨w.heap.size,1,[]⟩) (sg ((q,.E4 (SB e))::st.hp)) (.ref q 0 1 1) (.slice (some ⟨w.heap.size,0,none⟩) 1 1):=by
 have Ci:=K2 st.hp q (.E4 (SB e));have hM:∀j,j≠q->Fi M q ⟨w.heap.size,1,[]⟩ j=M j:=λ j hj=>by simp[Fi,hj]
 have Jk:Fi M q ⟨w.heap.size,1,[]⟩ q=⟨w.heap.size,1,[]⟩:=by simp[Fi]
 have GY:=GC Ci hM hn;refine ⟨hr.change Ci hM GY rfl rfl rfl (by simp) (λ b hb _=>alloc_old w _ b hb) ?_ (λ b hb=> .inr (by have:b=_:=hb;rw[this,Jk];exact Ai _)),?_⟩
 . rw[Jk];exact ⟨λ hF=>Nat.lt_irrefl _ (hr.keep.Fl _ hF),rfl,ad,heap_alloc_new w _⟩
 . exact .ref q 0 1 1 1 1 _ (by rw[C1 Ci,if_pos rfl];rfl) (Ai _) ⟨_,_,_,rfl⟩ (λ _=>⟨_,1,rfl,by omega,by omega,by rw[Jk],.inr (by rw[Jk])⟩)
theorem Rel.Atm(hr:Rel c st a w F M){id q2 t t2 ty e e2 e3:TypeId}{u2:TypeDesc}{i:TypeInfo}{z:Value}{sz k N:Nat}{rows:List (List (List Pd))}{vs vx:Value}
   (hg:get st.hp id=some (.Dj e e2 sz k rows none)) (hN0:N=rows.length) (hv:DR F w M (sg st.hp) (.Dk id N) vs) (hq:get st.hp q2=some (.E4 (SB e3))) (hx:DR F w M (sg st.hp) (.ref q2 0 1 1) vx)
   (Fe:P.underlying t=some (.slice e)) (Lt:P.underlying t2=some u2) (Uo:∀k,u2≠ .int k) (hi:P.info? e=some i) (hz:i.zero=some z) (Ew:i.size=1) (hzs:z.cells.size=1)
   (hle:N+1<=140737488355328) (hby:(N+1)*i.bytes<=140737488355328):
   ∃v w' M',Rel c {st with hp:=Co st.hp id (.Dj e e2 sz (k+1) (rows++[[]]) none)} a w' F M'/\DR F w' M' (sg (Co st.hp id (.Dj e e2 sz (k+1) (rows++[[]]) none))) (.Dk id (N+1)) v/\
     (Builtin.append_ #[t,t2] ty #[vs,vx]).run P w= .ok v w':=by
 subst hN0;have hn:HM F w (M id) e e2 sz rows none:=hr.heap.obj id _ hg;obtain ⟨hqF,hqc,adn,hqh⟩:¬F (M q2).Dp/\(M q2).cap=1/\∃ad,w.heap[(M q2).Dp]?=some (.cells #[.slice ad 0 0] e3 (0,0)):=hr.heap.obj q2 _ hq;have Yy:q2≠id:=λ e=>by rw[e,hg] at hq;cases hq
 obtain ⟨cap,ad,rfl,h5,h6,h7,h8⟩:∃cap ad,vs= .slice ad rows.length cap/\0+rows.length<=rows.length/\rows.length<=cap/\0+cap=(M id).cap/\(cap=0∨ad=some ⟨(M id).Dp,0*1,none⟩):=by
   cases hv with
   | Dk _ _ sz1 m1 k1 _ hs hN RQ h2=>
     rw[CO hg] at hs;simp only[AO.sg,Al,Sg.Dj.injEq] at hs;obtain ⟨rfl,rfl,rfl⟩:=hs;obtain ⟨ad,cap,h3,h4⟩:=h2 rfl;exact ⟨cap,ad,h3,h4⟩
 simp only[A0] at h7;subst h7;have ML:vx= .slice (some ⟨(M q2).Dp,0,none⟩) 1 1:=by
   cases hx with
   | ref _ _ _ _ sz1 n1 _ hs hN RQ h2=>
     rw[CO hq] at hs;simp only[AO.sg,SB,Al,Sg.arr.injEq] at hs;obtain ⟨rfl,rfl⟩:=hs;obtain ⟨ad2,cap2,rfl,g1,g2,g3,g4⟩:=h2 rfl;rw[A0,hqc] at g3;subst g3;rcases g4 with g4 | g4
     . cases g4
     . rw[g4]
 subst ML;have Abe:∀w1:World,(Builtin.lenOf (.slice (some ⟨(M q2).Dp,0,none⟩) 1 1)).run P w1= .ok 1 w1:=λ w1=>by simp[Builtin.lenOf]
 have hf1:∀w1:World,w1.heap=w.heap->(Builtin.firstCells i.size 1 (.slice (some ⟨(M q2).Dp,0,none⟩) 1 1)).run P w1= .ok #[.slice adn 0 0] w1:=λ w1 h1=>by
   have:=run_firstCells_some (P:=P) w1 i.size 1 ⟨(M q2).Dp,0,none⟩ 1 1 [.slice adn 0 0] (by simp[Ew]) (λ j v hj=>by
     cases j with
     | zero=>
       simp only[AK,Al] at hj;subst hj;rw[Addr.add_lit,cell_of_row w1 (M q2).Dp (0+0) #[.slice adn 0 0] e3 (0,0) (by rw[h1];exact hqh)];rfl
     | succ j=>simp at hj)
   simpa using this
 have Ci:∀j,get (Co st.hp id (.Dj e e2 sz (k+1) (rows++[[]]) none)) j=if j=id then some (.Dj e e2 sz (k+1) (rows++[[]]) none) else get st.hp j:=CH _ _ _
 have WI:sg (Co st.hp id (.Dj e e2 sz (k+1) (rows++[[]]) none)) id=some (.Dj sz (rows.length+1) (k+1)):=by rw[C1 Ci];simp[AO.sg]
 have GY:∀mb,CI M (Fi M id mb) (sg st.hp) (sg (Co st.hp id (.Dj e e2 sz (k+1) (rows++[[]]) none))):=by
   intro mb;have hM:∀j,j≠id->Fi M id mb j=M j:=λ j hj=>by simp[Fi,hj]
   refine ⟨λ j hj=>?_,λ j s2 n2 hj=>?_,λ j s2 n2 k2 hj=>?_⟩
   . have e2:j≠id:=λ e2=>by rw[e2,CO hg] at hj;simp[AO.sg] at hj
     rw[C1 Ci,if_neg e2,hM j e2];exact ⟨hj,rfl⟩
   . have e2:j≠id:=λ e2=>by rw[e2,CO hg] at hj;simp[AO.sg] at hj
     rw[C1 Ci,if_neg e2,hM j e2];exact ⟨n2,hj,Ai _,λ _=>rfl⟩
   . by_cases e2:j=id
     . subst e2;rw[CO hg] at hj;simp only[AO.sg,Al,Sg.Dj.injEq] at hj;obtain ⟨rfl,rfl,rfl⟩:=hj;exact ⟨_,_,WI,by omega,by omega,λ h=>by omega,λ h=>by omega⟩
     . rw[C1 Ci,if_neg e2,hM j e2];exact ⟨n2,k2,hj,Ai _,Ai _,λ _=>⟨rfl,rfl⟩,λ _=>rfl⟩
 have Hn:∀{j:Nat} {b:Nat×Nat},((M id).xs++[(0,0)])[j]?=some b->(M id).xs[j]?=some b∨(j=rows.length/\b=(0,0)):=by
   intro j b h;rw[AM] at h;split at h
   . exact .inl h
   . rename_i h1;rw[hn.xl] at h1 h;cases hj:j - rows.length with
     | zero=>
       rw[hj] at h;simp only[AK,Al] at h;exact .inr ⟨by omega,h.symm⟩
     | succ m=>rw[hj] at h;simp at h
 have hrs:∀{j:Nat} {r:List (List Pd)},(rows++[[]])[j]?=some r->(rows[j]?=some r/\j<rows.length)∨(j=rows.length/\r=[]):=by
   intro j r h;rw[AM] at h;split at h
   . rename_i h1;exact .inl ⟨h,h1⟩
   . rename_i h1;cases hj:j - rows.length with
     | zero=>
       rw[hj] at h;simp only[AK,Al] at h;exact .inr ⟨by omega,h.symm⟩
     | succ m=>rw[hj] at h;simp at h
 have mk:∀{w':World} {b cp:Nat},(∀b,F b->w'.heap[b]?=w.heap[b]?)->(∀(j:Nat) bc,(M id).xs[j]?=some bc->bc.2≠0->w'.heap[bc.1]?=w.heap[bc.1]?)->(∀(j:Nat) bc,(M id).xs[j]?=some bc->bc.2≠0->cp≠0->bc.1≠b)->
     rows.length+1<=cp->cp<=maxLen->¬F b->(∃row,w'.heap[b]?=some (.cells row e (0,0))/\row.size=cp/\(∀(j:Nat) r bc,rows[j]?=some r->(M id).xs[j]?=some bc->∃a,row.getD j undef= .slice a r.length bc.2/\(bc.2=0∨a=some ⟨bc.1,0,none⟩))/\∃a,row.getD rows.length undef= .slice a 0 0)->
     HM F w' ⟨b,cp,(M id).xs++[(0,0)]⟩ e e2 sz (rows++[[]]) none:=by
   intro w' b cp hF hxo hxb hl hm Ll ⟨row,g1,g2,g3,g4⟩;refine ⟨hn.pos,by simp[hn.xl],by simpa using hl,hm,λ _=>⟨Ll,row,g1,g2,λ j r bc h1 h2 _=>?_⟩,λ j r bc h1 h2 _=>?_,λ j bc h1 _=>(by cases h1),λ j1 j2 b1 b2 h1 h2 h3 h4 h5=>?_,λ j bi h1 h2 h3=>?_⟩
   . rcases hrs h1 with ⟨h3,h4⟩ | ⟨rfl,rfl⟩
     . rcases Hn h2 with h5 | ⟨rfl,_⟩
       . exact g3 j r bc h3 h5
       . omega
     . rcases Hn h2 with h5 | ⟨_,rfl⟩
       . have:=(An.1 h5).1;rw[hn.xl] at this;omega
       . obtain ⟨a,h6⟩:=g4;exact ⟨a,h6,.inl rfl⟩
   . rcases hrs h1 with ⟨h3,h4⟩ | ⟨rfl,rfl⟩
     . rcases Hn h2 with h5 | ⟨rfl,_⟩
       . exact (hn.rows j r bc h3 h5 (by simp)).keep hF (λ _ h=>h) (λ hc=>⟨hxo j bc h5 hc,hn.IY (.inr ⟨j,bc,h5,hc,rfl⟩)⟩)
       . omega
     . rcases Hn h2 with h5 | ⟨_,rfl⟩
       . have:=(An.1 h5).1;rw[hn.xl] at this;omega
       . exact ⟨hn.pos,by simp,by simp,by simp,λ h=>(h rfl).elim⟩
   . rcases Hn h1 with h6 | ⟨_,rfl⟩
     . rcases Hn h2 with h7 | ⟨_,rfl⟩
       . exact hn.dis j1 j2 b1 b2 h6 h7 h3 h4 h5
       . exact (h5 rfl).elim
     . exact (h4 rfl).elim
   . rcases Hn h1 with h6 | ⟨_,rfl⟩
     . exact hxb j bi h6 h2 h3
     . exact (h2 rfl).elim
 have Vg:∀{w':World} {b cp:Nat} {ad:Option Addr},rows.length+1<=cp->ad=some ⟨b,0,none⟩->DR F w' (Fi M id ⟨b,cp,(M id).xs++[(0,0)]⟩) (sg (Co st.hp id (.Dj e e2 sz (k+1) (rows++[[]]) none))) (.Dk id (rows.length+1)) (.slice ad (rows.length+1) cp):=by
   intro w' b cp ad h1 h2;exact .Dk id _ sz (rows.length+1) (k+1) _ WI (Ai _) ⟨_,_,rfl,.inr ⟨_,h2⟩⟩ (λ _=>⟨ad,cp,rfl,by omega,h1,by simp[Fi],.inr (by simp[Fi,h2])⟩)
 have JO:∀mb,Fi M id mb id=mb:=λ mb=>by simp[Fi]
 have Nw:∀mb j,j≠id->Fi M id mb j=M j:=λ mb j hj=>by simp[Fi,hj]
 have Ar4:∀{b' cp b:Nat},DA ⟨b',cp,(M id).xs++[(0,0)]⟩ b->(cp≠0/\b=b')∨DA (M id) b:=by
   intro b' cp b h;rcases h with ⟨h1,h2⟩ | ⟨j,bc,h1,h2,h3⟩
   . exact .inl ⟨h1,h2⟩
   . rcases Hn h1 with h4 | ⟨_,rfl⟩
     . exact .inr (.inr ⟨j,bc,h4,h2,h3⟩)
     . exact (h2 rfl).elim
 by_cases Ki:rows.length+1<=(M id).cap
 . have WR:(M id).cap≠0:=by omega
   obtain rfl:=h8.resolve_left WR;obtain ⟨Ll,row,CS,Ha,CK⟩:=hn.outer WR;have II:=run_storeCells_at P (M id).Dp (rows.length*i.size) e [.slice adn 0 0] 0 row w CS (by simp[Ew];omega) (by intro v hv;simp at hv;subst hv;rfl);simp only[Bh] at II;have Dr:=HN (P:=P) (w:=w) (ty:=ty) Fe Lt Uo hi (base:=some ⟨(M id).Dp,0*1,none⟩) (n:=rows.length) (Abe w) (hf1 w rfl) Ki
     (λ ad' e3=>by cases e3;rw[Addr.add_lit];simp only[Nat.zero_mul,A0];exact II) (λ e3=>by cases e3)
   simp only[Ew,Nat.mul_one,Aq,Az,A0] at Dr II;have I4:∀p,((row.toList.take rows.length++[Value.slice adn 0 0]++row.toList.drop (rows.length+1)).toArray).getD p undef=if p=rows.length then .slice adn 0 0 else row.getD p undef:=by
     intro p;have e1:row.toList.take rows.length++[Value.slice adn 0 0]++row.toList.drop (rows.length+1)=row.toList.set rows.length (.slice adn 0 0):=by
       rw[List.set_eq_take_append_cons_drop,if_pos (by simp;omega)];simp
     rw[e1];simp only[As,BP,BN];by_cases e2:rows.length=p
     . subst e2;have h9:rows.length<row.size:=by omega
       simp[h9]
     . rw[if_neg e2,if_neg (Bj e2)];simp
   have Asm:((row.toList.take rows.length++[Value.slice adn 0 0]++row.toList.drop (rows.length+1)).toArray).size=(M id).cap:=by
     simp;omega
   refine ⟨_,_,Fi M id ⟨(M id).Dp,(M id).cap,(M id).xs++[(0,0)]⟩,hr.change (w':=w.setRow (M id).Dp (row.toList.take rows.length++[Value.slice adn 0 0]++row.toList.drop (rows.length+1)).toArray) Ci (Nw _) (GY _) rfl rfl rfl (by simp)
     (λ b hb Dn=>setRow_other w _ b _ (λ e=>Dn _ hg (.inl ⟨WR,e⟩))) ?_ (λ b hb=> .inl ⟨_,hg,?_⟩),Vg Ki rfl,Dr⟩
   . rw[JO];exact mk (λ b hb=>setRow_other w _ b _ (λ e=>Ll (e ▸ hb))) (λ j bc h1 h2=>setRow_other w _ _ _ (hn.out j bc h1 h2 WR)) (λ j bc h1 h2 _=>hn.out j bc h1 h2 WR) Ki hn.max Ll
       ⟨_,setRow_heap w _ _ _ e (0,0) CS,Asm,λ j r bc h1 h2=>by
         obtain ⟨a,h3,h4⟩:=CK j r bc h1 h2 (by simp);have:=(An.1 h1).1;exact ⟨a,by rw[I4,if_neg (by omega)];exact h3,h4⟩,adn,by rw[I4,if_pos rfl]⟩
   . rw[JO] at hb;rcases Ar4 hb with ⟨_,h1⟩ | h1
     . exact .inl ⟨WR,h1⟩
     . exact h1
 ·
   obtain ⟨Iw,ho1,WJ,ho3⟩:∃Iw:Array Value,Iw.size=rows.length/\(Builtin.firstCells i.size rows.length (.slice ad rows.length (M id).cap)).run P w.drew= .ok Iw w.drew/\
       ∀(j:Nat) r bc,rows[j]?=some r->(M id).xs[j]?=some bc->∃a,Iw.getD j undef= .slice a r.length bc.2/\(bc.2=0∨a=some ⟨bc.1,0,none⟩):=by
     by_cases h0:(M id).cap=0
     . have h1:rows=[]:=AZ (by omega);subst h1;refine ⟨#[],rfl,?_,λ j r bc h=>by simp at h⟩;cases ad<;>simp[Builtin.firstCells,loadCells,loadCellsFrom]
     . obtain rfl:=h8.resolve_left h0;obtain ⟨Ll,row,CS,Ha,CK⟩:=hn.outer h0;have hl:(row.toList.take rows.length).length=rows.length:=by simp;omega
       refine ⟨(row.toList.take rows.length).toArray,by simpa using hl,?_,λ j r bc h1 h2=>?_⟩
       . refine run_firstCells_some (P:=P) w.drew i.size rows.length ⟨(M id).Dp,0*1,none⟩ rows.length (M id).cap _ (by rw[hl,Ew];omega) (λ j v hj=>?_);rw[Addr.add_lit,cell_of_row w.drew (M id).Dp (0*1+j) row e (0,0) CS];rw[AH] at hj;split at hj
         . simpa using hj
         . cases hj
       . obtain ⟨a,h3,h4⟩:=CK j r bc h1 h2 (by simp);have:=(An.1 h1).1;refine ⟨a,?_,h4⟩;rw[<-h3];simp[As,AH,this]
   have Dr:=G5 (P:=P) (w:=w) (ty:=ty) Fe Lt Uo hi hz (base:=ad) (n:=rows.length) (cap:=(M id).cap) (Abe w) (hf1 w.drew rfl) WJ (by omega) hle hby;have Qu:=grownCap_ge w (rows.length+1) (M id).cap e;have s9:=grownCap_le_maxLen w (rows.length+1) (M id).cap e (by unfold maxLen;omega);generalize hcp:grownCap w (rows.length+1) (M id).cap e=cp at Dr Qu s9;have Mf:=heap_alloc_new w.drew (.cells (Iw++#[Value.slice adn 0 0]++Builtin.zeroCells z.cells (cp - (rows.length+1))) e);have hold:∀b,b<w.heap.size->(w.drew.alloc (.cells (Iw++#[Value.slice adn 0 0]++Builtin.zeroCells z.cells (cp - (rows.length+1))) e)).heap[b]?=w.heap[b]?:=λ b hb=>alloc_old w.drew _ b hb;refine ⟨_,_,Fi M id ⟨w.heap.size,cp,(M id).xs++[(0,0)]⟩,hr.change (w':=w.drew.alloc (.cells (Iw++#[Value.slice adn 0 0]++Builtin.zeroCells z.cells (cp - (rows.length+1))) e)) Ci (Nw _) (GY _) rfl rfl rfl (by simp)
     (λ b hb _=>hold b hb) ?_ (λ b hb=>?_),Vg Qu rfl,Dr⟩
   . rw[JO];refine mk (λ b hb=>hold b (hr.keep.Fl b hb)) (λ j bc h1 h2=>hold _ (hn.lt (.inr ⟨j,bc,h1,h2,rfl⟩))) (λ j bc h1 h2 _=>Nat.ne_of_lt (hn.lt (.inr ⟨j,bc,h1,h2,rfl⟩))) Qu s9 (λ hF=>Nat.lt_irrefl _ (hr.keep.Fl _ hF))
       ⟨_,Mf,by simp[G0,hzs,ho1];omega,λ j r bc h1 h2=>?_,adn,?_⟩
     . obtain ⟨a,h3,h4⟩:=ho3 j r bc h1 h2;have:=(An.1 h1).1;refine ⟨a,?_,h4⟩;rw[<-h3];simp only[As];rw[Array.getElem?_append_left (by simp;omega),Array.getElem?_append_left (by omega)]
     . simp only[As];rw[Array.getElem?_append_left (by simp;omega),Array.getElem?_append_right (by omega),ho1];simp
   . rw[JO] at hb;rcases Ar4 hb with ⟨_,h1⟩ | h1
     . exact .inr (by rw[h1];exact Ai _)
     . exact .inl ⟨_,hg,h1⟩
end
end Go.Am
namespace Go.Am
open Go
section
variable {P:Program} {ops rest:List Oper} {k:Kt} {st:St} {o:Oper}
theorem Aue(hc:C4 o.op=none)(h:mOp P st (o.dst.getD 0) o.op λ d h'=>O P true ops rest k (({st with hp:=h'}:St).put o.dst d)):Af P true ops rest k o st .fail:=by
 refine Ji λ ct a w F M Q hr=>?_;obtain ⟨d,h',v,w',F',M',hk,KD,hF,hd,Dr⟩:=FW hr h;unfold Oper.wp;rcases Dr with Dr | ⟨rfl,Dr⟩
 . rw[Dr];exact ⟨_,F',M',hk,KD.put hd o.dst⟩
 . rw[Dr];exact ⟨_,F',M',hk,KD.put hd o.dst⟩
theorem Anj{t e e2:TypeId}{x:Operand}{s1 b1 b2:Nat}{z1:D}(ho:o.op= .buildSlice t 1 #[(0,x)])(ht:Cx P t=some ⟨s1,b1,.slice e,z1⟩)(hte:Cx P e=some ⟨1,b2,.slice e2,.cl []⟩)
   (hx:ev st x= .cl []) (hq:get st.hp (o.dst.getD 0)=none)
   (h:O P true ops rest k (({st with hp:=(o.dst.getD 0,.arr e 1 [[.sl []]])::st.hp}:St).put o.dst (.ref (o.dst.getD 0) 0 1 1))):Af P true ops rest k o st .fail:=by
 refine Aue (by rw[ho];rfl) ?_;rw[ho];simp only[mOp,ht,hte,AD,Bi,hx];exact ⟨by omega,by omega,by simpa [Gt,D.cells,D.one,Hs,J5,chunk,hq] using h⟩
theorem range_one:Array.range 1=#[0]:=rfl
theorem Ani{t e e2:TypeId}{x:Operand}{s1 b1 b2:Nat}{z1:D}(ho:o.op= .buildSlice t 1 #[(0,x)])(ht:Cx P t=some ⟨s1,b1,.slice e,z1⟩)(hte:Cx P e=some ⟨1,b2,.slice e2,.cl []⟩)
   (hx:ev st x= .cl []) (hq:get st.hp (o.dst.getD 0)=none)
   (h:O P true ops rest k (({st with hp:=(o.dst.getD 0,.E4 (SB e))::st.hp}:St).put o.dst (.ref (o.dst.getD 0) 0 1 1))):Af P true ops rest k o st .fail:=by
 refine Ji λ ct a w F M Q hr=>?_;obtain ⟨i1,u1,z1',Nr,Fe,hz1,e1⟩:=B4 ht;simp only[TI.mk.injEq] at e1;obtain rfl:=TK.of_slice e1.2.2.1.symm;obtain ⟨i,u,z,hi,hu,hz,e3⟩:=B4 hte;simp only[TI.mk.injEq] at e3;obtain ⟨e4,e5,e6,e7⟩:=e3;have hzv:=RM e7.symm;subst hzv;have SX:=B9 hr x;rw[hx] at SX;generalize ML:a.eval x=vx at SX;cases SX with
 | cl _ ad _ _=>
   obtain ⟨h2,h3⟩:=hr.Aoi (q:=o.dst.getD 0) (e:=e) (ad:=ad) hq;unfold Oper.wp;have hex:(execOp a.eval o).run P w= .ok (.value (.slice (some ⟨w.heap.size,0,none⟩) 1 1)) (w.alloc (.cells #[.slice ad 0 0] e)):=by
     simp[execOp,ho,Instr.buildSlice,run_underlying Fe,Result.andThen,Dd hi,<-e4,IQ hi hz,Value.cells,Instr.fill,ML,newRow,range_one,Nat.mod_one]
   rw[hex];exact ⟨_,F,_,h,h2.put h3 o.dst⟩
theorem Ahb{c:Call}{x y:Operand}{id q2 t t2 e e2 e3 e4:TypeId}{s1 b1 b2 sz kk N s2 b4:Nat}{z1 z2:D}{rows:List (List (List Pd))}(ho:o.op= .call c)(hc:c.callee= .builtin .append)(ha:c.args=#[x,y])(hta:c.argTypes=#[t,t2])
   (ht:Cx P t=some ⟨s1,b1,.slice e,z1⟩) (ht2:Cx P t2=some ⟨s2,b4,.slice e4,z2⟩) (hte:Cx P e=some ⟨1,b2,.slice e2,.cl []⟩)
   (hx:ev st x= .Dk id N) (hg:get st.hp id=some (.Dj e e2 sz kk rows none)) (hN:N=rows.length) (hy:ev st y= .ref q2 0 1 1) (hq:get st.hp q2=some (.E4 (SB e3)))
   (hle:N+1<=140737488355328) (hby:(N+1)*b2<=140737488355328)
   (h:O P true ops rest k (({st with hp:=Co st.hp id (.Dj e e2 sz (kk+1) (rows++[[]]) none)}:St).put o.dst (.Dk id (N+1)))):Af P true ops rest k o st .fail:=by
 refine Ji λ ct a w F M Q hr=>?_;obtain ⟨i1,u1,z1',Nr,Fe,hz1,e1⟩:=B4 ht;simp only[TI.mk.injEq] at e1;obtain rfl:=TK.of_slice e1.2.2.1.symm;obtain ⟨i2,u2,z2',EG,Lt,hz2,e21⟩:=B4 ht2;simp only[TI.mk.injEq] at e21;obtain rfl:=TK.of_slice e21.2.2.1.symm;obtain ⟨i,u,z,hi,hu,hz,e31⟩:=B4 hte;simp only[TI.mk.injEq] at e31;obtain ⟨e41,e5,e6,e7⟩:=e31;have hzv:=RM e7.symm;subst hzv;have SX:=B9 hr x;rw[hx] at SX;have hy':=B9 hr y;rw[hy] at hy';obtain ⟨v,w',M',h1,h2,h3⟩:=hr.Atm (P:=P) (ty:=o.type) hg hN SX hq hy' Fe Lt (λ k h=>by cases h) hi hz e41.symm rfl hle (by rw[<-e5];exact hby);unfold Oper.wp;have hex:(execOp a.eval o).run P w= .ok (.value v) w':=by
   simp[execOp,ho,hc,ha,hta,resolve,invoke,builtin,h3,Result.andThen]
 rw[hex];exact ⟨_,F,M',h,h1.put h2 o.dst⟩
end
theorem Wk.Aoh{st:St}{id j q sz:Nat}{cs:List D}{ty:TypeId}(e e2:TypeId)(hb:get st.hp id=some (.box cs ty))(hj:cs[j]?=some (.cl []))(hq:get st.hp q=none)(hs:0<sz):
   Wk st ⟨st.env,(q,.Dj e e2 sz 0 [] none)::Co st.hp id (.box (cs.set j (.Dk q 0)) ty),st.n⟩:=by
 intro c a w F M hr;obtain ⟨Ia,h1⟩:=hr.Yd (e:=e) (e2:=e2) hq hs;have Dn:id≠q:=λ h=>by subst h;rw[hq] at hb;cases hb
 have RD:get ((q,AO.Dj e e2 sz 0 [] none)::st.hp) id=some (.box cs ty):=by rw[Cb,if_neg (Bj Dn)];exact hb
 have Ci:∀i,get ((q,AO.Dj e e2 sz 0 [] none)::Co st.hp id (.box (cs.set j (.Dk q 0)) ty)) i=if i=id then some (.box (cs.set j (.Dk q 0)) ty) else get ((q,AO.Dj e e2 sz 0 [] none)::st.hp) i:=by
   intro i;simp only[Cb,CH];by_cases e1:i=id
   . subst e1;simp[Bj Dn]
   . by_cases e2:q=i
     . subst e2;simp[e1]
     . simp[e1,e2]
 have Hb:=Ds Ci RD rfl;have Ajr:=Ia.heap.obj id _ RD;obtain ⟨Ll,row,t,CS,Ew,CK⟩:=Ajr;refine ⟨F,Fi M q ⟨0,0,[]⟩,?_⟩;refine Ia.change (st:=⟨st.env,(q,AO.Dj e e2 sz 0 [] none)::st.hp,st.n⟩) Ci (λ _ _=>rfl) (by rw[Hb];exact CI.refl _ _) rfl rfl rfl (Ai _) (λ _ _ _=>rfl) ?_ (λ b hb=> .inl ⟨_,RD,hb⟩);refine ⟨Ll,row,t,CS,by simpa using Ew,λ i d hd=>?_,λ h5 h6 i hi=>?_⟩;rotate_left
 . refine CK.2 h5 ?_ i ?_
   . obtain ⟨x,hx,hn⟩:=Bd.1 h6;rcases List.mem_or_eq_of_mem_set hx with h7 | rfl
     . exact Bd.2 ⟨x,h7,hn⟩
     . cases hn
   . by_cases e1:i=j
     . subst e1;rw[BB (An.1 hj).1] at hi;cases hi
     . rwa[List.getElem?_set_ne (Bj e1)] at hi
 rw[Hb];by_cases e1:i=j
 . subst e1;have Cj:=(An.1 hj).1;rw[BB Cj] at hd;cases hd;have h2:=CK.1 i _ hj;refine ⟨?_,h2.2⟩;have h3:=h2.1;generalize row.getD i undef=v at h3;cases h3 with | cl _ ad _ _=>exact h1 ad
 . rw[List.getElem?_set_ne (Bj e1)] at hd;exact CK.1 i d hd
end Go.Am
namespace Go.Am
open Go
theorem BV.seal{P:Program}{f:FuncId}{args:List D}{h:Hp}{R R':Hp->D->Prop}(hc:BV P f args h R)(hR:∀h' r,R h' r->E2 h' r λ d h2=>NN (h.map (·.1)) h2 d R'):BV P f args h R':=by
 intro vs w F M Lw Ow Rw hd;refine (hc vs w F M Lw Ow Rw hd).mono ?_;rintro e w' ⟨v,h',r,F',M',rfl,hr,Up,WO,hk⟩;have Ast:Rel ⟨w,F,Ev M h,M,sg h⟩ ⟨[],h',0⟩ ⟨#[],[]⟩ w' F' M':=⟨λ t d ht=>by simp[get] at ht,rfl,rfl,Up,hk⟩;obtain ⟨d,h2,F2,Jj,Avp,_,_,I8⟩:=Ol r Ast WO (hR h' r hr);obtain ⟨h3,r2,M2,h4,h5,h6,h7⟩:=NM Avp rfl (λ _=>Iff.rfl) I8 Jj;exact ⟨v,h3,r2,F2,M2,rfl,h4,h5,h6,h7⟩
end Go.Am
end
section
set_option linter.unusedVariables false
set_option linter.unusedSimpArgs false
namespace Go.Am
open Go
def FA(sz n:Nat):Aqa where
 sg:= .arr sz n
 holds:=λ _ _ _=>True
 FP:=λ _ _=>False
 keep:=λ _ _ _ _=>trivial
 IY:=λ _ h=>h.elim
 lt:=λ _ h=>h.elim
 Ape:=λ _ _ _=>trivial
section
variable {c:Ctx} {st:St} {a:Act} {w:World} {F:Nat->Prop} {M:Nat->Mb}
theorem Rel.move(hr:Rel c st a w F M){q q' k sz:Nat}{e:TypeId}{es:List (List Pd)}(hq:get st.hp q=some (.arr e sz es))(hk:k<=es.length)(ZM:get st.hp q'=none):
   Rel c ⟨st.env,(q',.arr e sz (es.take k))::Co st.hp q (.E4 (FA sz (es.length+1))),st.n⟩ a w F (Fi M q' (M q))/\
     ∀v,DR F w M (sg st.hp) (.ref q 0 k es.length) v->DR F w (Fi M q' (M q)) (sg ((q',.arr e sz (es.take k))::Co st.hp q (.E4 (FA sz (es.length+1))))) (.ref q' 0 k k) v:=by
 have Dn:q'≠q:=λ h=>by subst h;rw[hq] at ZM;cases ZM
 have Ci:∀i,get ((q',AO.arr e sz (es.take k))::Co st.hp q (.E4 (FA sz (es.length+1)))) i=if i=q' then some (.arr e sz (es.take k)) else if i=q then some (.E4 (FA sz (es.length+1))) else get st.hp i:=by
   intro i;simp only[Cb,CH];by_cases e1:q'=i
   . subst e1;simp
   . rw[if_neg e1,if_neg (Bj e1)]
 have hMo:∀i,i≠q'->Fi M q' (M q) i=M i:=λ i hi=>by simp[Fi,hi]
 have Jk:Fi M q' (M q) q'=M q:=by simp[Fi]
 have hlen:(es.take k).length=k:=by simp;omega
 have Asp:∀i,i≠q'->i≠q->sg ((q',AO.arr e sz (es.take k))::Co st.hp q (.E4 (FA sz (es.length+1)))) i=sg st.hp i:=λ i h1 h2=>by
   simp[sg,Ci,h1,h2]
 have Um:sg st.hp q=some (.arr sz es.length):=by simp[sg,hq,AO.sg]
 have Avm:sg ((q',AO.arr e sz (es.take k))::Co st.hp q (.E4 (FA sz (es.length+1)))) q=some (.arr sz (es.length+1)):=by
   unfold sg;rw[Ci,if_neg (Bj Dn),if_pos rfl];rfl
 have Qm:sg ((q',AO.arr e sz (es.take k))::Co st.hp q (.E4 (FA sz (es.length+1)))) q'=some (.arr sz k):=by
   unfold sg;rw[Ci,if_pos rfl];simp[AO.sg,hk]
 have Asr:sg st.hp q'=none:=by simp[sg,ZM]
 have Hv:CI M (Fi M q' (M q)) (sg st.hp) (sg ((q',AO.arr e sz (es.take k))::Co st.hp q (.E4 (FA sz (es.length+1))))):=by
   refine ⟨λ i hi=>?_,λ i s n hi=>?_,λ i s n kk hi=>?_⟩
   . have h1:i≠q':=λ h=>by rw[h,Asr] at hi;cases hi
     have h2:i≠q:=λ h=>by rw[h,Um] at hi;cases hi
     rw[Asp i h1 h2,hMo i h1];exact ⟨hi,rfl⟩
   . have h1:i≠q':=λ h=>by rw[h,Asr] at hi;cases hi
     by_cases h2:i=q
     . subst h2;rw[Um] at hi;cases hi;exact ⟨es.length+1,Avm,by omega,λ h=>by omega⟩
     . rw[Asp i h1 h2,hMo i h1];exact ⟨n,hi,Ai _,λ _=>rfl⟩
   . have h1:i≠q':=λ h=>by rw[h,Asr] at hi;cases hi
     have h2:i≠q:=λ h=>by rw[h,Um] at hi;cases hi
     rw[Asp i h1 h2,hMo i h1];exact ⟨n,kk,hi,Ai _,Ai _,λ _=>⟨rfl,rfl⟩,λ _=>rfl⟩
 have hF:∀b,F b->w.heap[b]?=w.heap[b]?:=λ _ _=>rfl;have Ajo:∀i o b,get ((q',AO.arr e sz (es.take k))::Co st.hp q (.E4 (FA sz (es.length+1)))) i=some o->o.FP (Fi M q' (M q) i) b->
     ∃i0 o0,get st.hp i0=some o0/\o0.FP (M i0) b/\(i=q'->i0=q)/\(i≠q'->i0=i/\i≠q):=by
   intro i o b hi ho;rw[Ci] at hi;by_cases h1:i=q'
   . subst h1;rw[if_pos rfl] at hi;cases hi;rw[Jk] at ho;exact ⟨q,_,hq,ho,λ _=>rfl,λ h=>(h rfl).elim⟩
   . rw[if_neg h1] at hi;by_cases h2:i=q
     . subst h2;rw[if_pos rfl] at hi;cases hi;exact ho.elim
     . rw[if_neg h2] at hi;rw[hMo i h1] at ho;exact ⟨i,o,hi,ho,λ h=>(h1 h).elim,λ _=>⟨rfl,h2⟩⟩
 refine ⟨⟨λ t d ht=>(hr.env t d ht).keep hF (λ _ h=>h) Hv,hr.size,hr.defers,⟨λ i o hi=>?_,λ i o i' o' b hi S4 ho MM=>?_⟩,?_⟩,λ v hv=>?_⟩
 . rw[Ci] at hi;by_cases h1:i=q'
   . subst h1;rw[if_pos rfl] at hi;cases hi;rw[Jk];obtain ⟨g1,g2,g3,g4,g5⟩:=hr.heap.obj q _ hq;refine ⟨g1,by rw[hlen];omega,g3,λ j x hx=>?_,λ hc=>?_⟩
     . rw[AH] at hx;split at hx
       . exact g4 j x hx
       . cases hx
     . obtain ⟨f1,row,f2,f3,f4⟩:=g5 hc;refine ⟨f1,row,f2,f3,λ j x l y hx hy=>?_⟩;rw[AH] at hx;split at hx
       . exact f4 j x l y hx hy
       . cases hx
   . rw[if_neg h1] at hi;by_cases h2:i=q
     . subst h2;rw[if_pos rfl] at hi;cases hi;exact trivial
     . rw[if_neg h2] at hi;rw[hMo i h1];exact (hr.heap.obj i o hi).keep hF (λ _ h=>h) Hv (λ b CC=>⟨rfl,hr.heap.IY ⟨i,o,hi,CC⟩⟩)
 . obtain ⟨j,p,h1,h2,h3,h4⟩:=Ajo i o b hi ho;obtain ⟨j',p',EO,GZ,h3',h4'⟩:=Ajo i' o' b S4 MM;have hj:=hr.heap.inj j p j' p' b h1 EO h2 GZ;by_cases e1:i=q'
   . by_cases e2:i'=q'
     . rw[e1,e2]
     . have:=h4' e2;have:=h3 e1;omega
   . by_cases e2:i'=q'
     . have:=h4 e1;have:=h3' e2;omega
     . have:=h4 e1;have:=h4' e2;omega
 . have hk:=hr.keep;refine ⟨hk.os,hk.tape,hk.output,hk.size,hk.Lz,hk.F0,hk.Fn,hk.Fl,?_,hk.UM.trans Hv,hk.Z9⟩;rintro b ⟨i,o,hi,ho⟩;obtain ⟨j,p,h1,h2,_⟩:=Ajo i o b hi ho;exact hk.own _ ⟨j,p,h1,h2⟩
 . cases hv with
   | ref id off len N QQ n v hs hN hva h=>
     rw[Um] at hs;cases hs;obtain ⟨ad,cap,g1,g2,g3,g4,g5⟩:=h rfl;refine .ref q' 0 k k sz k _ Qm (Ai _) hva λ _=>?_;rw[QW,Jk];exact ⟨ad,cap,g1,by omega,g3,g4,g5⟩
theorem Wk.HO{st:St}{id j q k sz:Nat}(q':Nat){cs:List D}{ty e:TypeId}{es:List (List Pd)}(hb:get st.hp id=some (.box cs ty))(hj:cs[j]?=some (.ref q 0 k es.length))(hq:get st.hp q=some (.arr e sz es))
   (hk:k<=es.length) (ZM:get st.hp q'=none):
   Wk st ⟨st.env,Co ((q',.arr e sz (es.take k))::Co st.hp q (.E4 (FA sz (es.length+1)))) id (.box (cs.set j (.ref q' 0 k k)) ty),st.n⟩:=by
 intro c a w F M hr;obtain ⟨Ia,h2⟩:=hr.move hq hk ZM;have Dn:id≠q:=λ h=>by subst h;rw[hq] at hb;cases hb
 have Avz:id≠q':=λ h=>by subst h;rw[ZM] at hb;cases hb
 have RD:get ((q',AO.arr e sz (es.take k))::Co st.hp q (.E4 (FA sz (es.length+1)))) id=some (.box cs ty):=by
   rw[Cb,if_neg (Bj Avz),CH,if_neg Dn];exact hb
 have Ci:∀i,get (Co ((q',AO.arr e sz (es.take k))::Co st.hp q (.E4 (FA sz (es.length+1)))) id (.box (cs.set j (.ref q' 0 k k)) ty)) i=
     if i=id then some (.box (cs.set j (.ref q' 0 k k)) ty) else get ((q',AO.arr e sz (es.take k))::Co st.hp q (.E4 (FA sz (es.length+1)))) i:=λ i=>by rw[CH]
 have Hb:=Ds Ci RD rfl;have hold:=(hr.heap.obj id _ hb);obtain ⟨Ll,row,t,CS,Ew,CK⟩:=Ia.heap.obj id _ RD;obtain ⟨_,Ayn,t0,Ar1,_,Abi⟩:=hold;have JO:Fi M q' (M q) id=M id:=by simp[Fi,Avz]
 rw[JO] at Ll CS;rw[Ar1] at CS;simp only[Al,Obj.cells.injEq] at CS;obtain ⟨rfl,hty,_⟩:=CS;refine ⟨F,Fi M q' (M q),?_⟩;refine Ia.change (st:=⟨st.env,(q',AO.arr e sz (es.take k))::Co st.hp q (.E4 (FA sz (es.length+1))),st.n⟩) Ci (λ _ _=>rfl) (by rw[Hb];exact CI.refl _ _) rfl rfl rfl (Ai _) (λ _ _ _=>rfl) ?_ (λ b hb=> .inl ⟨_,RD,hb⟩);rw[JO];refine ⟨Ll,Ayn,t0,Ar1,by simpa using Ew,λ i d hd=>?_,λ h5 h6 i hi=>?_⟩;rotate_left
 . refine Abi.2 h5 ?_ i ?_
   . obtain ⟨x,hx,hn⟩:=Bd.1 h6;rcases List.mem_or_eq_of_mem_set hx with h7 | rfl
     . exact Bd.2 ⟨x,h7,hn⟩
     . cases hn
   . by_cases e1:i=j
     . subst e1;rw[BB (An.1 hj).1] at hi;cases hi
     . rwa[List.getElem?_set_ne (Bj e1)] at hi
 rw[Hb];by_cases e1:i=j
 . subst e1;have Cj:=(An.1 hj).1;rw[BB Cj] at hd;cases hd;have h3:=Abi.1 i _ hj;exact ⟨h2 _ h3.1,h3.2⟩
 . rw[List.getElem?_set_ne (Bj e1)] at hd;exact CK.1 i d hd
end
end Go.Am
namespace Go.Am
open Go
section
variable {P:Program} {c:Ctx} {st:St} {a:Act} {w:World} {F:Nat->Prop} {M:Nat->Mb}
theorem Wk.Ati{t:Nat}{es:List (List Pd)}(ht:get st.env t=some (.cz es)):Wk st ⟨(t,.p (.sl es))::st.env,st.hp,st.n⟩:=by
 intro c a w F M hr;refine ⟨F,M,⟨λ j d hj=>?_,hr.size,hr.defers,hr.heap,hr.keep⟩⟩;rw[Cb] at hj;split at hj
 . rename_i e1;subst e1;cases hj;have h2:=hr.env _ _ ht;generalize a.tmps.getD t undef=v at h2;cases h2 with | cz _ ad h=>exact .p h
 . exact hr.env j d hj
end
end Go.Am
end
