/- Texts of this proof, what it rests on, merged: part D. -/
import Derived.Lib.ConvBytes
import Derived.Lib.OthersKept
import Derived.ScopeJumps
import Derived.Laws.IdiomStrings
import Derived.Lib.LaidTab
import Derived.Lib.ItoaNum
import Derived.Sort.Grow
import Derived.Deep.Draws
import Derived.Below
import Derived.LaidSub
import Derived.Test.YtjbklifaekjilaaGreatDoorLpC
section
set_option linter.unusedVariables false
set_option linter.unusedSimpArgs false
namespace Go.Am
open Go Go.ChangeShapes Go.RowKit
def wtF(p:Field->List Pd->Prop):List Field->List Pd->Prop
 | [],cs=>cs=[]
 | f::r,cs=>∃a b,cs=a++b/\p f a/\wtF p r b
def YT(P:Program):Nat->TypeId->List Pd->Prop
 | 0,_,_=>False
 | n+1,t,cs=>match P.underlying t with
   | some .bool=>∃b,cs=[.bool b]
   | some (.int k)=>∃v,cs=[.int k v]/\(Lit.int k v).wf=true
   | some .string=>∃l,cs=[.str l]
   | some (.slice e)=>∃es,cs=[.sl es]/\∀y∈es,YT P n e y
   | some (.struct fs)=>wtF (λ f=>YT P n f.type) fs.toList cs
   | some (.array k e)=>∃es:List (List Pd),cs=es.flatten/\es.length=k/\∀y∈es,YT P n e y
   | _=>False
section
variable {H:Type} {enc:TypeId×Value->H} {P:Program} {w:World} {spare:Nat->Bool} {held:Bool}
theorem Y4{p:Field->List Pd->Prop}:∀(fs:List Field) (xs:List (DataW H×List MemPlace)),xs.length=fs.length->(∀(i:Nat) f x,fs[i]?=some f->xs[i]?=some x->p f (E7 x.1))->wtF p fs (Mr (xs.map (·.1)))
 | [],xs,hl,_=>by
   have:xs=[]:=AY hl;subst this;rfl
 | f::r,xs,hl,h=>by
   cases xs with
   | nil=>simp at hl
   | cons x xs=>exact ⟨E7 x.1,Mr (xs.map (·.1)),rfl,h 0 f x rfl rfl,Y4 r xs (by simpa using hl) λ i g y hg hy=>h (i+1) g y (by simpa using hg) (by simpa using hy)⟩
theorem UO:∀(xs:List (DataW H×List MemPlace)),Mr (xs.map (·.1))=(xs.map λ x=>E7 x.1).flatten
 | []=>rfl
 | x::r=>by simp only[AH,Mr,List.flatten_cons,UO r]
theorem Aqm:∀(m:Nat) (t:TypeId),EF P m t=true->∀(fuel:Nat) (cs:List Value) (x:DataW H×List MemPlace),
   DataW.trod enc P w 0 spare held fuel t cs=some x->YT P m t (E7 x.1):=by
 intro m
 induction m with
 | zero=>intro t h;simp[EF] at h
 | succ m ih=>
   intro t ht fuel cs x h;simp only[EF] at ht;simp only[YT];split at ht
   . rename_i hu;obtain ⟨b,rfl,rfl⟩:=DataW.trod_bool hu h;rw[hu];exact ⟨b,rfl⟩
   . rename_i k hu;obtain ⟨n,rfl,rfl,hw⟩:=DataW.trod_int hu h;rw[hu];exact ⟨n,rfl,hw⟩
   . rename_i hu;obtain ⟨s,rfl,rfl,_⟩:=DataW.trod_string hu h;rw[hu];exact ⟨_,rfl⟩
   . rename_i e hu;simp only[As,Au] at ht;obtain ⟨hk,hpe⟩:=ht;rw[hu];rcases DataW.trod_slice hu h with ⟨rfl,rfl⟩ | ⟨a,len,cap,elems,rest,n,rfl,rfl,rfl,hb,hl,hc,hel,Cx,_,_⟩
     . exact ⟨[],rfl,by simp⟩
     . refine ⟨elems.map λ x=>E7 x.1,by simp only[E7,Xb],λ y hy=>?_⟩;obtain ⟨z,hz,rfl⟩:=AU.1 hy;obtain ⟨i,hi,rfl⟩:=AD.1 hz;have:=Cx i (by omega);rw[Az hi] at this;obtain ⟨cs',h1,h2⟩:=Option.bind_eq_some_iff.1 this;exact ih e hpe _ _ _ h2
   . rename_i fs hu;simp only[As,Au] at ht;rw[hu];obtain ⟨xs,n,rfl,rfl,hl,hxl,Cx⟩:=DataW.trod_struct hu h;simp only[E7];refine Y4 fs.toList xs (by simpa using hxl) λ i f x hf hx=>?_;have h1:=Cx i f (by simpa using hf);rw[hx] at h1;exact ih f.type (AB.1 ht.2 f (AQ hf)) _ _ _ h1
   . rename_i k e hu;simp only[As,Au] at ht;rw[hu];obtain ⟨xs,n,rfl,rfl,hl,hxl,Cx⟩:=DataW.trod_array hu h;refine ⟨xs.map λ x=>E7 x.1,by simp only[E7,UO],by simpa using hxl,λ y hy=>?_⟩;obtain ⟨z,hz,rfl⟩:=AU.1 hy;obtain ⟨i,hi,rfl⟩:=AD.1 hz;have h1:=Cx i (by omega);rw[Az hi] at h1;exact ih e ht.2 _ _ _ h1
   . cases ht
end
section
variable {P:Program} {n:Nat} {t:TypeId} {cs:List Pd}
theorem Tx{k:IntKind}(hu:P.underlying t=some (.int k))(h:YT P n t cs):∃v,cs=[.int k v]/\(Lit.int k v).wf=true:=by
 cases n with
 | zero=>exact h.elim
 | succ n=>simpa only[YT,hu] using h
theorem Au5(hu:P.underlying t=some .string)(h:YT P n t cs):∃l,cs=[.str l]:=by
 cases n with
 | zero=>exact h.elim
 | succ n=>simpa only[YT,hu] using h
theorem Awv{e:TypeId}(hu:P.underlying t=some (.slice e))(h:YT P n t cs):∃m es,cs=[.sl es]/\∀y∈es,YT P m e y:=by
 cases n with
 | zero=>exact h.elim
 | succ n=>
   simp only[YT,hu] at h;exact ⟨n,h⟩
theorem Aww{k:Nat}{e:TypeId}(hu:P.underlying t=some (.array k e))(h:YT P n t cs):∃m,∃es:List (List Pd),cs=es.flatten/\es.length=k/\∀y∈es,YT P m e y:=by
 cases n with
 | zero=>exact h.elim
 | succ n=>
   simp only[YT,hu] at h;exact ⟨n,h⟩
theorem Ae5{α:Type}(enc:α->List Pd):∀(es:List (List Pd)),(∀y∈es,∃x,y=enc x)->∃l:List α,es=l.map enc
 | [],_=>⟨[],rfl⟩
 | y::r,h=>by
   obtain ⟨x,hx⟩:=h y (by simp);obtain ⟨l,hl⟩:=Ae5 enc r λ z hz=>h z (by simp[hz]);exact ⟨x::l,by simp[hx,hl]⟩
end
end Go.Am
namespace Go.Am
open Go
section
variable {P:Program} {ops rest:List Oper} {k:Kt} {st:St} {o:Oper}
theorem Ig(h:OV P o (O P true ops rest k) st):Af P true ops rest k o st .fail:=⟨rfl,h⟩
theorem Azo{st1:St}(hw:Wk st st1)(h:Do P true ops rest k o st1):Af P true ops rest k o st .fail:=by
 refine Ig λ c a w F M Q hr=>?_;obtain ⟨F1,M1,HJ⟩:=hw c a w F M hr;exact Ra HJ h Q
theorem Rel.Bat{c:Ctx}{a:Act}{w w':World}{F:Nat->Prop}{M:Nat->Mb}(hr:Rel c st a w F M)(hos:w'.os=w.os)(Ut:w'.tape=w.tape)(V0:w'.output=w.output)
   (FJ:w'.heap.size=w.heap.size+1) (hold:∀b,b<w.heap.size->w'.heap[b]?=w.heap[b]?):Rel c st a w' (λ b=>F b∨b=w.heap.size) M:=by
 have hF:∀b,F b->w'.heap[b]?=w.heap[b]?:=λ b hb=>hold b (hr.CW.Fl b hb);have hs:=C1.refl M (sg st.hp);refine ⟨λ t d ht=>(hr.env t d ht).CW hF (λ _ h=> .inl h) hs,hr.size,hr.defers,⟨λ id x hx=>?_,hr.heap.inj⟩,?_⟩
 . refine (hr.heap.obj id x hx).CW hF (λ _ h=> .inl h) hs λ b CT=>?_;have Cv:=hr.heap.lt ⟨id,x,hx,CT⟩;refine ⟨hold _ Cv,?_⟩;rintro (h | h)
   . exact hr.heap.JL ⟨id,x,hx,CT⟩ h
   . omega
 . have hk:=hr.CW;refine ⟨hos.trans hk.os,Ut.trans hk.tape,V0.trans hk.output,by have:=hk.size;omega,λ b hb hO=>?_,λ b hb=> .inl (hk.F0 b hb),λ b hb=>?_,λ b hb=>?_,hk.own,hk.XQ,hk.s0b⟩
   . rw[hold b (Nat.lt_of_lt_of_le hb hk.size)];exact hk.N2 b hb hO
   . rcases hb with hb | rfl
     . exact hk.Fn b hb
     . exact .inr (.inr hk.size)
   . rcases hb with hb | rfl
     . have:=hk.Fl b hb;omega
     . omega
theorem Aai{s d e:TypeId}{x:Operand}{z0 z1 z2:D}{n0 n1 n2 n3 b2:Nat}{l:List UInt8}(ho:o.op= .convert s d x)(hs:CJ P s=some ⟨n0,n1,.string,z0⟩)(hd:CJ P d=some ⟨n2,n3,.slice e,z1⟩)(he:CJ P e=some ⟨1,b2,.int .u8,z2⟩)
   (hx:ev st x= .p (.str l)) (h:O P true ops rest k (st.put o.dst (.p (.sl (EH l))))):Af P true ops rest k o st .fail:=by
 refine Ig λ c a w F M Q hr=>?_;obtain ⟨_,u1,_,_,Fq,_,e1⟩:=Ch hs;obtain ⟨_,u2,_,_,KE,_,e2⟩:=Ch hd;obtain ⟨_,u3,_,_,hu3,_,e3⟩:=Ch he;simp only[TI.mk.injEq] at e1 e2 e3;obtain rfl:=D4 e1.2.2.1.symm;obtain rfl:=C4 e2.2.2.1.symm;obtain rfl:=Jx e3.2.2.1.symm;have hv:=Co hr x;rw[hx] at hv;generalize ME:a.eval x=v at hv;cases hv with | p hv=>cases hv with | str=>
 have DE:=Lib.run_convert_string_bytes (P:=P) w s d e ⟨l.toArray⟩ Fq KE hu3;have J5:Rel c st a (Lib.bytesWorld w e ⟨l.toArray⟩) (λ b=>F b∨b=w.heap.size) M:=hr.Bat rfl rfl rfl (Lib.bytesWorld_size _ _ _) (λ b hb=>Lib.bytesWorld_at_old _ _ _ b hb);unfold Oper.wp;have hex:(execOp a.eval o).run P w= .ok (.value (.slice (some ⟨w.heap.size,0,none⟩) (⟨l.toArray⟩:ByteArray).size (grownCap w (⟨l.toArray⟩:ByteArray).size 0 e))) (Lib.bytesWorld w e ⟨l.toArray⟩):=by
   simp only[execOp,ho,ME];simp[DE]
 rw[hex];refine ⟨_,_,_,h,J5.put ?_ o.dst⟩;have hlen:(⟨l.toArray⟩:ByteArray).size=(EH l).length:=by simp[EH,HB]
 rw[hlen];refine .p (.sl (EH l) w.heap.size 0 _ 1 _ e _ (.inr rfl) (Lib.bytesWorld_at_new _ _ _) (by have:=grownCap_ge w (EH l).length 0 e;exact this) (λ i y hy=>?_) (λ i y j q hy hq=>?_) (λ i y j q hy hq=>?_))
 . simp only[EH,AS] at hy;cases hb:l[i]? with
   | none=>rw[hb] at hy;cases hy
   | some b=>rw[hb] at hy;cases hy;rfl
 . simp only[EH,AS] at hy;cases hb:l[i]? with
   | none=>rw[hb] at hy;cases hy
   | some b=>
     rw[hb] at hy;cases hy;have Cv:=(Ao.1 hb).1;cases j with
     | succ j=>simp at hq
     | zero=>simp[Lib.bytesCells];omega
 . simp only[EH,AS] at hy;cases hb:l[i]? with
   | none=>rw[hb] at hy;cases hy
   | some b=>
     rw[hb] at hy;cases hy;have Cv:=(Ao.1 hb).1;cases j with
     | succ j=>simp at hq
     | zero=>
       simp only[AK,Al] at hq;subst hq;have:(Lib.bytesCells w e ⟨l.toArray⟩).getD (0+i*1+0) undef= .int .u8 b.toNat:=by
         rw[At];simp[Lib.bytesCells,Array.getElem?_append,Cv];have:=(Ao.1 hb).2;rw[this]
       rw[this];exact .int _ _
theorem Aqc{t:TypeId}{x:Operand}{q:Nat}{n0 n1:Nat}{z0:D}{l:List UInt8}(ho:o.op= .range t x)(hq:o.dst=some q)(ht:CJ P t=some ⟨n0,n1,.string,z0⟩)(hx:ev st x= .p (.str l))(hn:get st.hp q=none)
   (h:O P true ops rest k (({st with hp:=(q,.iter l 0)::st.hp}:St).put (some q) (.ptr q 0))):Af P true ops rest k o st .fail:=by
 refine Ig λ c a w F M Q hr=>?_;obtain ⟨_,u1,_,_,Fq,_,e1⟩:=Ch ht;simp only[TI.mk.injEq] at e1;obtain rfl:=D4 e1.2.2.1.symm;have hv:=Co hr x;rw[hx] at hv;generalize ME:a.eval x=v at hv;cases hv with | p hv=>cases hv with | str=>
 have Cx:=LZ st.hp q (.iter l 0);have hM:∀j,j≠q->FU M q ⟨w.heap.size,0,[]⟩ j=M j:=λ j hj=>by simp[FU,hj]
 have J9:FU M q ⟨w.heap.size,0,[]⟩ q=⟨w.heap.size,0,[]⟩:=by simp[FU]
 have Hk:=G4 Cx hM hn;have hold:∀b,b<w.heap.size->(w.iter ⟨l.toArray⟩ 0).heap[b]?=w.heap[b]?:=λ b hb=>alloc_old w _ b hb;have J5:Rel c {st with hp:=(q,.iter l 0)::st.hp} a (w.iter ⟨l.toArray⟩ 0) F (FU M q ⟨w.heap.size,0,[]⟩):=by
   refine hr.change Cx hM Hk rfl rfl rfl (by simp[World.iter]) (λ b hb _=>hold b hb) ?_ (λ b hb=> .inr (by have:b=_:=hb;rw[this,J9];exact Ai _));rw[J9];exact ⟨λ hF=>Nat.lt_irrefl _ (hr.CW.Fl _ hF),World.iter_heap _ _ _⟩
 unfold Oper.wp;have hex:(execOp a.eval o).run P w= .ok (.value (.pointer (some ⟨w.heap.size,0,none⟩))) (w.iter ⟨l.toArray⟩ 0):=by
   simp only[execOp,ho,ME];simp[run_range_string w t ⟨l.toArray⟩ Fq]
 rw[hex];rw[<-hq] at h;refine ⟨_,_,_,h,J5.put ?_ o.dst⟩;have:=DR.ptr (F:=F) (w:=w.iter ⟨l.toArray⟩ 0) (M:=FU M q ⟨w.heap.size,0,[]⟩) (s:=sg ((q,.iter l 0)::st.hp)) q 0 (by rw[C9 Cx];simp[AO.sg]);rwa[J9] at this
theorem At3{it:Operand}{id:Nat}{l:List UInt8}{pos:Nat}(ho:o.op= .next it true)(hx:ev st it= .ptr id 0)(hg:get st.hp id=some (.iter l pos))(ha:∀b∈l,b.toNat<128)
   (h1:∀(Cv:pos<l.length),O P true ops rest k (({st with hp:=Cz st.hp id (.iter l (pos+1))}:St).put o.dst (.Dv [.p (.bool true),.p (.int .i64 pos),.p (.int .i32 (l[pos]).toNat)])))
   (h2:¬pos<l.length->O P true ops rest k (st.put o.dst (.Dv [.p (.bool false)]))):Af P true ops rest k o st .fail:=by
 refine Ig λ c a w F M Q hr=>?_;have hv:=Co hr it;rw[hx] at hv;generalize ME:a.eval it=v at hv;cases hv with
 | ptr _ _ hs=>
   obtain ⟨Mn,Pv⟩:=hr.heap.obj id _ hg;unfold Oper.wp;by_cases Cv:pos<l.length
   . have Ay6:pos<(⟨l.toArray⟩:ByteArray).size:=by rw[HB];exact Cv
     have hb:((⟨l.toArray⟩:ByteArray)[pos]'Ay6)=l[pos]:=by simp[ByteArray.getElem_eq_getElem_data]
     have DE:=Go.Lib.run_next_ascii_at (P:=P) w (M id).DQ ⟨l.toArray⟩ pos o.type Pv Ay6 (by rw[hb];exact ha _ (AN Cv));have hex:(execOp a.eval o).run P w= .ok (.value (.tuple #[.bool true,.int .i64 pos,.int .i32 (l[pos]).toNat])) (w.iterAt (M id).DQ ⟨l.toArray⟩ (pos+1)):=by
       simp only[execOp,ho,ME];simp[DE,hb]
     rw[hex];have Yl:(M id).DQ<w.heap.size:=(Be.1 Pv).1;have Cx:∀j,get (Cz st.hp id (.iter l (pos+1))) j=if j=id then some (.iter l (pos+1)) else get st.hp j:=CU _ _ _
     have G7:=DJ Cx hg rfl;have J5:Rel c {st with hp:=Cz st.hp id (.iter l (pos+1))} a (w.iterAt (M id).DQ ⟨l.toArray⟩ (pos+1)) F M:=by
       refine hr.change (M':=M) Cx (λ _ _=>rfl) (by rw[G7];exact C1.refl _ _) rfl rfl rfl (by simp[World.iterAt]) (λ b hb Dt=>?_) ⟨Mn,Go.Lib.iterAt_heap w _ _ _ _ Pv⟩ (λ b hb=> .inl ⟨_,hg,hb⟩);have:b≠(M id).DQ:=Dt _ hg;simp[World.iterAt,Array.getElem?_setIfInBounds,Bc this]
     refine ⟨_,_,_,h1 Cv,J5.put ?_ o.dst⟩;refine .Dv _ _ rfl λ i d hd=>?_
     match i,hd with
     | 0,hd=>simp only[AK,Al] at hd;subst hd;exact .p (.bool true)
     | 1,hd=>simp only[List.getElem?_cons_succ,AK,Al] at hd;subst hd;exact .p (.int _ _)
     | 2,hd=>simp only[List.getElem?_cons_succ,AK,Al] at hd;subst hd;exact .p (.int _ _)
     | i+3,hd=>simp at hd
   . have DE:=Go.Lib.run_next_end_at (P:=P) w (M id).DQ ⟨l.toArray⟩ pos o.type Pv (by rw[HB];exact Cv);have hex:(execOp a.eval o).run P w= .ok (.value (.tuple #[.bool false])) w:=by
       simp only[execOp,ho,ME];simp[DE]
     rw[hex];refine ⟨_,_,_,h2 Cv,hr.put ?_ o.dst⟩;refine .Dv _ _ rfl λ i d hd=>?_
     match i,hd with
     | 0,hd=>simp only[AK,Al] at hd;subst hd;exact .p (.bool false)
     | i+1,hd=>simp at hd
end
end Go.Am
namespace Go.Am
open Go
theorem Wk.seal{st:St}{t id:Nat}{ty:TypeId}{xs:List Pd}{env1:List (Nat×D)}{hp1:Hp}(ht:get st.env t=some (.ptr id 0))(ho:get st.hp id=some (.box (xs.map .p) ty))(h1:get hp1 id=none)(hl:Le st ⟨env1,hp1,st.n⟩):
   Wk st ⟨(t,.pe xs)::env1,hp1,st.n⟩:=by
 intro c a w F M hr;have HJ:=hr.forget hl;obtain ⟨Mn,row,_,Dq,FJ,De⟩:=hr.heap.obj id _ ho;have CT:E8 M st.hp (M id).DQ:=⟨id,_,ho,rfl⟩;have hLH:C8 st.hp hp1:=hl.2.2.1;have hs:=C1.refl M (sg hp1);refine ⟨λ b=>F b∨b=(M id).DQ,M,⟨λ q d hq=>?_,HJ.size,HJ.defers,⟨λ j o hj=>?_,HJ.heap.inj⟩,?_⟩⟩
 . rw[Cw] at hq;split at hq
   . rename_i e;subst e;cases hq;have hv:=hr.env _ _ ht;generalize a.tmps.getD t undef=v at hv;cases hv with
     | ptr _ _ _=>
       refine .pe xs (M id).DQ 0 row _ (0,0) (.inr rfl) Dq (λ j x hx=>?_) (λ j x hx=>?_)
       . have:=(Ao.1 hx).1;simp at FJ;omega
       . have:=(De.1 j (.p x) (by simp[hx])).1;rw[Bf];cases this with | p hp=>exact hp.CW (λ _ _=>rfl) (λ _ h=> .inl h)
   . exact (HJ.env q d hq).CW (λ _ _=>rfl) (λ _ h=> .inl h) hs
 . refine (HJ.heap.obj j o hj).CW (λ _ _=>rfl) (λ _ h=> .inl h) hs λ b VB=>⟨rfl,?_⟩;rintro (h | h)
   . exact HJ.heap.JL ⟨j,o,hj,VB⟩ h
   . have:=hr.heap.inj j o id _ b (hLH.spec j o hj) ho VB h;subst this;simp only at hj;rw[h1] at hj;cases hj
 . have hk:=HJ.CW;refine ⟨hk.os,hk.tape,hk.output,hk.size,hk.N2,λ b hb=> .inl (hk.F0 b hb),λ b hb=>?_,λ b hb=>?_,hk.own,hk.XQ,hk.s0b⟩
   . rcases hb with hb | rfl
     . exact hk.Fn b hb
     . exact .inr (hr.CW.own _ CT)
   . rcases hb with hb | rfl
     . exact hk.Fl b hb
     . exact (Be.1 Dq).1
section
variable {P:Program} {ops rest:List Oper} {k:Kt} {st:St} {o:Oper}
theorem Aah{t e:TypeId}{x lo:Operand}{z0:D}{n0 n1 n:Nat}{ti:TI}{xs:List Pd}{kd:IntKind}{L:Nat}(ho:o.op= .slice t x (some lo) none none)(ht:CJ P t=some ⟨n0,n1,.array n e,z0⟩)(he:CJ P e=some ti)
   (hx:ev st x= .pe xs) (hlo:ev st lo= .p (.int kd (L:Nat))) (hL:L<n) (IE:xs.length=n*ti.size) (FJ:0<ti.size)
   (h:O P true ops rest k (st.put o.dst (.p (.sl ((chunk ti.size n xs).drop L))))):Af P true ops rest k o st .fail:=by
 refine Ig λ c a w F M Q hr=>?_;obtain ⟨_,u1,_,_,Fq,_,e1⟩:=Ch ht;simp only[TI.mk.injEq] at e1;obtain rfl:=ID e1.2.2.1.symm;obtain ⟨i2,u2,z2,Ea,KE,_,rfl⟩:=Ch he;simp only at IE FJ h;have hv:=Co hr x;rw[hx] at hv;generalize ME:a.eval x=v at hv;have VX:=Co hr lo;rw[hlo] at VX;generalize Bbc:a.eval lo=vl at VX;cases VX with | p VX=>cases VX with | int=>
 cases hv with
 | pe _ b off row ty fr hF hh hi hp=>
   unfold Oper.wp;have hex:(execOp a.eval o).run P w= .ok (.value (.slice (some ⟨b,off+L*i2.size,none⟩) (n - L) (n - L))) w:=by
     have Dt:¬n=L:=by omega
     simp only[execOp,ho,ME,Bbc,Bk,Option.map_none];simp[Instr.sliceAt,Instr.sureAddr,Instr.sliceBounds,Instr.sliceBound,asIntOf,run_underlying Fq,Dw Ea,Dt,Addr.add_lit];omega
   rw[hex];refine ⟨_,_,_,h,hr.put ?_ o.dst⟩;have hlen:((chunk i2.size n xs).drop L).length=n - L:=by rw[BM,Jf]
   have Cx:∀(i:Nat) y,((chunk i2.size n xs).drop L)[i]?=some y->L+i<n/\y=(xs.drop ((L+i)*i2.size)).take i2.size:=by
     intro i y hy;rw[AR,Og] at hy;split at hy
     . rename_i Cv;cases hy;exact ⟨Cv,rfl⟩
     . cases hy
   have OQ:∀(i:Nat) y (j:Nat) q,((chunk i2.size n xs).drop L)[i]?=some y->y[j]?=some q->xs[(L+i)*i2.size+j]?=some q:=by
     intro i y j q hy hq;obtain ⟨_,rfl⟩:=Cx i y hy;rw[AI] at hq;split at hq
     . rw[AR] at hq;exact hq
     . cases hq
   have Ary:∀i j,off+L*i2.size+i*i2.size+j=off+((L+i)*i2.size+j):=λ i j=>by rw[A2];omega
   rw[<-hlen];refine .p (.sl _ b (off+L*i2.size) _ i2.size row ty fr hF hh (Ai _) (λ i y hy=>?_) (λ i y j q hy hq=>?_) (λ i y j q hy hq=>?_))
   . obtain ⟨Cv,rfl⟩:=Cx i y hy;rw[A8,BM,IE];have:(L+i+1)*i2.size<=n*i2.size:=Bh _ Cv;rw[A2] at this;omega
   . rw[Ary];exact hi _ _ (OQ i y j q hy hq)
   . rw[Ary];exact hp _ _ (OQ i y j q hy hq)
end
end Go.Am
namespace Go.Am
open Go
theorem DC{st:St}{id j q sz:Nat}{cs:List D}{ty:TypeId}(e:TypeId)(hb:get st.hp id=some (.box cs ty))(hj:cs[j]?=some (.cl []))(hq:get st.hp q=none)(hs:0<sz):
   Wk st ⟨st.env,(q,.arr e sz [])::Cz st.hp id (.box (cs.set j (.ref q 0 0 0)) ty),st.n⟩:=by
 intro c a w F M hr;obtain ⟨HJ,h1⟩:=hr.T6 (e:=e) hq hs;have Dt:id≠q:=λ h=>by subst h;rw[hq] at hb;cases hb
 have SD:get ((q,AO.arr e sz [])::st.hp) id=some (.box cs ty):=by rw[Cw,if_neg (Bc Dt)];exact hb
 have Cx:∀i,get ((q,AO.arr e sz [])::Cz st.hp id (.box (cs.set j (.ref q 0 0 0)) ty)) i=if i=id then some (.box (cs.set j (.ref q 0 0 0)) ty) else get ((q,AO.arr e sz [])::st.hp) i:=by
   intro i;simp only[Cw,CU];by_cases e1:i=id
   . subst e1;simp[Bc Dt]
   . by_cases e2:q=i
     . subst e2;simp[e1]
     . simp[e1,e2]
 have G7:=DJ Cx SD rfl;have Amd:=HJ.heap.obj id _ SD;obtain ⟨Mn,row,t,Dq,FJ,De⟩:=Amd;refine ⟨F,FU M q ⟨0,0,[]⟩,?_⟩;refine HJ.change (st:=⟨st.env,(q,AO.arr e sz [])::st.hp,st.n⟩) Cx (λ _ _=>rfl) (by rw[G7];exact C1.refl _ _) rfl rfl rfl (Ai _) (λ _ _ _=>rfl) ?_ (λ b hb=> .inl ⟨_,SD,hb⟩);refine ⟨Mn,row,t,Dq,by simpa using FJ,λ i d hd=>?_,λ h5 h6 i hi=>?_⟩;rotate_left
 . refine De.2 h5 ?_ i ?_
   . obtain ⟨x,hx,hn⟩:=AV.1 h6;rcases List.mem_or_eq_of_mem_set hx with h7 | rfl
     . exact AV.2 ⟨x,h7,hn⟩
     . cases hn
   . by_cases e1:i=j
     . subst e1;rw[BA (Ao.1 hj).1] at hi;cases hi
     . rwa[List.getElem?_set_ne (Bc e1)] at hi
 rw[G7];by_cases e1:i=j
 . subst e1;have Cv:=(Ao.1 hj).1;rw[BA Cv] at hd;cases hd;have h2:=De.1 i _ hj;refine ⟨?_,h2.2⟩;have h3:=h2.1;generalize row.getD i undef=v at h3;cases h3 with | cl _ ad _ _=>exact h1 ad
 . rw[List.getElem?_set_ne (Bc e1)] at hd;exact De.1 i d hd
theorem Wk.pure{st:St}{t id sz:Nat}{e:TypeId}{es:List (List Pd)}(ht:get st.env t=some (.ref id 0 es.length es.length))(ho:get st.hp id=some (.arr e sz es)):
   Wk st ⟨(t,.p (.sl es))::st.env,Cz st.hp id (.Nw sz es),st.n⟩:=by
 intro c a w F M hr;have hd:=hr.env _ _ ht;obtain ⟨x,h',F',⟨rfl,rfl⟩,J5,hF,hs,hp⟩:=LI hr hd (k:=λ x h'=>x= .sl es/\h'=Cz st.hp id (.Nw sz es)) (by simp[KW,ho,froze]);refine ⟨F',M,⟨λ j d hj=>?_,J5.size,J5.defers,J5.heap,J5.CW⟩⟩;rw[Cw] at hj;split at hj
 . rename_i e1;subst e1;cases hj;exact .p hp
 . exact J5.env j d hj
attribute [go_sem] Ta
theorem Af2(ρ:Nat->Option Nat)(xs:List Pd):Iq ρ (xs.map D.p)=xs.map D.p:=by
 induction xs with
 | nil=>rfl
 | cons x r ih=>simp[Iq,D.Ek,ih]
theorem All(xs:List Pd):(xs.map D.p).all D.one=true:=by
 induction xs with
 | nil=>rfl
 | cons x r ih=>simp[D.one]
theorem CG{P:Program}{l:List Oper}{id:Nat}{p:List (Nat×Nat)}{k:Kt}{st:St}(hm:P.follows .mixedOrders=true)(hB:Adg l p=true)(hle:C8 st.hp st.hp)(h:G P l st.hp p k st):
   X P (.region id l.toArray true) k st:=Dp st.hp hm hB hle h
attribute [go_sem] Af2 All List.length_map
end Go.Am
namespace Go.Am
open Go
def jmp(P:Program)(c:Code)(Q:Exit->Act->World->Prop):Nat->Exit->Act->World->Prop
 | 0,.goto _,_,_=>False
 | n+1,.goto l,a,w=>∃rest,findLabel c l=some rest/\rest.wp P (jmp P c Q n) a w
 | _,.normal,a,w=>Q .normal a w
 | _,.exit id,a,w=>Q (.exit id) a w
 | _,.ret,a,w=>Q .ret a w
 | _,.panic ch,a,w=>Q (.panic ch) a w
 | _,.outgrown,a,w=>Q .outgrown a w
theorem XH{P:Program}{a:Act}{w:World}{Q:Exit->Act->World->Prop}{c:Code}(n:Nat)(first:c.wp P (jmp P c Q n) a w):(Code.scope c).wp P Q a w:=by
 intro b k cs;have key:∀n (c1:Code) a w,c1.wp P (jmp P c Q n) a w->∃e a' w',Q e a' w'/\Arrives P (lone (b.at a (.code c1:: .inScope c::k)) cs w) b k cs e a' w':=by
   intro n
   induction n with
   | zero=>
     intro c1 a w h;obtain ⟨e,a₁,w₁,hq,QD⟩:=h b (.inScope c::k) cs;cases e with
     | normal=>exact ⟨.normal,a₁,w₁,hq,Steps.trans QD (.one step_inScope)⟩
     | exit id=>exact ⟨.exit id,a₁,w₁,hq,λ k' hk=>QD k' (by simp[exitTo,hk])⟩
     | goto l'=>exact hq.elim
     | ret=>exact ⟨_,a₁,w₁,hq,QD⟩
     | panic ch=>exact ⟨_,a₁,w₁,hq,QD⟩
     | outgrown=>exact ⟨_,a₁,w₁,hq,QD⟩
   | succ n ih=>
     intro c1 a w h;obtain ⟨e,a₁,w₁,hq,QD⟩:=h b (.inScope c::k) cs;cases e with
     | normal=>exact ⟨.normal,a₁,w₁,hq,Steps.trans QD (.one step_inScope)⟩
     | exit id=>exact ⟨.exit id,a₁,w₁,hq,λ k' hk=>QD k' (by simp[exitTo,hk])⟩
     | goto l'=>
       obtain ⟨rest,hf,hx⟩:=hq;have hg:gotoIn l' (.inScope c::k)=some (.code rest:: .inScope c::k):=by simp[gotoIn,hf]
       obtain ⟨e₂,a₂,w₂,hq₂,Ayn⟩:=ih rest a₁ w₁ hx;exact ⟨e₂,a₂,w₂,hq₂,.of_steps (QD _ hg) Ayn⟩
     | ret=>exact ⟨_,a₁,w₁,hq,QD⟩
     | panic ch=>exact ⟨_,a₁,w₁,hq,QD⟩
     | outgrown=>exact ⟨_,a₁,w₁,hq,QD⟩
 obtain ⟨e,a',w',hq,QD⟩:=key n c a w first
 exact ⟨e,a',w',hq,.of_steps (.one step_scope) QD⟩
def scQ(P:Program)(x:Code)(k:Kt):Nat->Exit->St->Prop
 | 0,.goto _,_=>False
 | n+1,.goto l,st=>∃st1 rest,Wk st st1/\findLabel x l=some rest/\wA P rest (scQ P x k n) st1
 | _,.normal,st=>J P k .normal st
 | _,.exit id,st=>J P k (.exit id) st
 | _,.ret,st=>J P k .ret st
 | _,.panic ch,st=>J P k (.panic ch) st
 | _,.outgrown,st=>J P k .outgrown st
def Jm(P:Program)(x:Code)(k:Kt)(n l:Nat)(st:St):Prop:=scQ P x k n (.goto l) st
section
variable {P:Program} {st:St} {x:Code} {k:Kt}
theorem Adc{c:Ctx}:∀(n:Nat) (e:Exit) (a:Act) (w:World),QC c (scQ P x k n) e a w->jmp P x (QC c (k.Fv P)) n e a w
 | 0,.goto _,_,_,⟨_,_,_,h,_⟩=>h.elim
 | n+1,.goto l,a,w,⟨st,F,M,⟨st1,rest,hw,hf,hx⟩,hr⟩=>by
   obtain ⟨F1,M1,HJ⟩:=hw c a w F M hr;exact ⟨rest,hf,Code.wp_mono (Adc n) (Hz rest HJ hx)⟩
 | 0,.normal,_,_,h=>h
 | 0,.exit _,_,_,h=>h
 | 0,.ret,_,_,h=>h
 | 0,.panic _,_,_,h=>h
 | 0,.outgrown,_,_,h=>h
 | _+1,.normal,_,_,h=>h
 | _+1,.exit _,_,_,h=>h
 | _+1,.ret,_,_,h=>h
 | _+1,.panic _,_,_,h=>h
 | _+1,.outgrown,_,_,h=>h
theorem Ae9(n:Nat)(h:X P x (.user (scQ P x k n)) st):X P (.scope x) k st:=
 λ c a w F M hr=>XH n (Code.wp_mono (Adc n) (Hz x hr h))
theorem Aj9(n l:Nat):J P (.user (scQ P x k n)) (.goto l) st=Jm P x k n l st:=nd rfl
theorem Aae(n:Nat):J P (.user (scQ P x k n)) .normal st=J P k .normal st:=by cases n<;>rfl
theorem Aq2(n:Nat):J P (.user (scQ P x k n)) .ret st=J P k .ret st:=by cases n<;>rfl
theorem SS{β:Type}(YV:β->Nat)(S:β->St)(I:β->Prop)(μ:β->Nat)(N:Nat)
   (h0:∀n,(∀b' st',I b'->μ b'<N->Wk st' (S b')->Jm P x k n (YV b') st')->X P x (.user (scQ P x k n)) st)
   (hs:∀b n,I b->(∀b' st',I b'->μ b'<μ b->Wk st' (S b')->Jm P x k n (YV b') st')->∃rest,findLabel x (YV b)=some rest/\X P rest (.user (scQ P x k n)) (S b)):X P (.scope x) k st:=by
 have key:∀n b st',I b->μ b<n->Wk st' (S b)->Jm P x k n (YV b) st':=by
   intro n
   induction n with
   | zero=>intro b _ _ h;exact (A0 _ h).elim
   | succ n ih=>
     intro b st' hb hm hw;obtain ⟨rest,hf,hx⟩:=hs b n hb λ b' Bam S7 Cv GO=>ih b' Bam S7 (by omega) GO;exact ⟨S b,rest,hw,hf,hx⟩
 exact Ae9 N (h0 N λ b' st' S7 Cv hw=>key N b' st' S7 Cv hw)
end
attribute [go_sem] Aj9 Aae Aq2
end Go.Am
namespace Go.Am
open Go
section
variable {P:Program} {ops rest:List Oper} {k:Kt} {st:St} {o:Oper}
theorem Ad0{s d e:TypeId}{x:Operand}{z0 z1 z2:D}{n0 n1 n2 n3 b2:Nat}{l:List UInt8}{id:Nat}{t:TypeId}(ho:o.op= .convert s d x)(hs:CJ P s=some ⟨n0,n1,.slice e,z0⟩)(hd:CJ P d=some ⟨n2,n3,.string,z1⟩)(he:CJ P e=some ⟨1,b2,.int .u8,z2⟩)
   (hx:ev st x= .ref id 0 l.length l.length) (hg:get st.hp id=some (.arr t 1 (EH l))) (h:O P true ops rest k (st.put o.dst (.p (.str l)))):Af P true ops rest k o st .fail:=by
 refine Ig λ c a w F M Q hr=>?_;obtain ⟨_,u1,_,_,Fq,_,e1⟩:=Ch hs;obtain ⟨_,u2,_,_,KE,_,e2⟩:=Ch hd;obtain ⟨_,u3,_,_,hu3,_,e3⟩:=Ch he;simp only[TI.mk.injEq] at e1 e2 e3;obtain rfl:=C4 e1.2.2.1.symm;obtain rfl:=D4 e2.2.2.1.symm;obtain rfl:=Jx e3.2.2.1.symm;have hv:=Co hr x;rw[hx] at hv;generalize ME:a.eval x=v at hv;have hlen:(EH l).length=l.length:=by simp[EH]
 have DE:(convert s d v).run P w= .ok (.string ⟨l.toArray⟩) w:=by
   cases hv with
   | ref _ _ _ _ sz n _ G7 hN Us Qx=>
     have hsn:sg st.hp id=some (.arr 1 l.length):=by simp[sg,hg,AO.sg,hlen]
     rw[hsn] at G7;simp only[Al,Sg.arr.injEq] at G7;obtain ⟨rfl,rfl⟩:=G7;obtain ⟨ad,cap,rfl,h1,h2,h3,h4⟩:=Qx rfl;obtain ⟨h5,h6,h7,h8,h9⟩:=hr.heap.obj id _ hg;by_cases hc:cap=0
     . have hl0:l=[]:=AY (by omega);subst hl0;cases ad with
       | none=>
         rw[run_convert_bytes_string w s d e none _ cap Fq hu3 KE];simp[Conv.bytesToString];rfl
       | some ad=>exact run_convert_bytes_back w s d e ad cap [] Fq hu3 KE (λ j hj=>by simp at hj)
     . obtain rfl:=h4.resolve_left hc;obtain ⟨_,row,⟨fr,Dq,_⟩,FJ,De⟩:=h9 (by omega);refine run_convert_bytes_back w s d e _ cap l Fq hu3 KE λ j hj=>?_;have hp:=De j [.int .u8 (l[j]).toNat] 0 (.int .u8 (l[j]).toNat) (by simp[EH,hj]) rfl;have Cv:j<row.size:=by omega
       have OQ:w.cell? ((⟨(M id).DQ,0*1,none⟩:Addr).add j)=row[j]?:=by
         rw[Addr.add_lit];simp[World.cell?,Dq]
       rw[OQ];simp only[Nat.mul_one,Bu] at hp;rw[At,Array.getElem?_eq_getElem Cv] at hp;rw[Array.getElem?_eq_getElem Cv];simp only[A5] at hp;generalize row[j]=y at hp;cases hp;rfl
 unfold Oper.wp;have hex:(execOp a.eval o).run P w= .ok (.value (.string ⟨l.toArray⟩)) w:=by
   simp only[execOp,ho,ME];simp[DE]
 rw[hex];exact ⟨_,_,_,h,hr.put (.p (.str l)) o.dst⟩
theorem Ajg{s d e:TypeId}{x:Operand}{z0 z1 z2:D}{n0 n1 n2 n3 b2 q:Nat}{l:List UInt8}(ho:o.op= .convert s d x)(hq:o.dst=some q)(hs:CJ P s=some ⟨n0,n1,.string,z0⟩)(hd:CJ P d=some ⟨n2,n3,.slice e,z1⟩)(he:CJ P e=some ⟨1,b2,.int .u8,z2⟩)
   (hx:ev st x= .p (.str l)) (hn:get st.hp q=none) (hl:l.length<=100000) (h:O P true ops rest k (({st with hp:=(q,.arr e 1 (EH l))::st.hp}:St).put (some q) (.ref q 0 l.length l.length))):Af P true ops rest k o st .fail:=by
 refine Ig λ c a w F M Q hr=>?_;obtain ⟨_,u1,_,_,Fq,_,e1⟩:=Ch hs;obtain ⟨_,u2,_,_,KE,_,e2⟩:=Ch hd;obtain ⟨_,u3,_,_,hu3,_,e3⟩:=Ch he;simp only[TI.mk.injEq] at e1 e2 e3;obtain rfl:=D4 e1.2.2.1.symm;obtain rfl:=C4 e2.2.2.1.symm;obtain rfl:=Jx e3.2.2.1.symm;have hv:=Co hr x;rw[hx] at hv;generalize ME:a.eval x=v at hv;cases hv with | p hv=>cases hv with | str=>
 have DE:=Lib.run_convert_string_bytes (P:=P) w s d e ⟨l.toArray⟩ Fq KE hu3;have hlen:(EH l).length=l.length:=by simp[EH]
 have GH:(⟨l.toArray⟩:ByteArray).size=l.length:=HB l;obtain ⟨J5,S4⟩:=hr.Adi (q:=q) (cap:=grownCap w l.length 0 e) (sz:=1) (es:=EH l) (e:=e) (vs:=Lib.bytesCells w e ⟨l.toArray⟩) (w':=Lib.bytesWorld w e ⟨l.toArray⟩) hn ⟨_,Lib.bytesWorld_at_new _ _ _,λ i hi h=>by omega⟩ (Lib.bytesWorld_size _ _ _) (λ b hb=>Lib.bytesWorld_at_old _ _ _ b hb) rfl rfl rfl (by decide)
   (by rw[hlen];exact grownCap_ge w l.length 0 e) (grownCap_le_maxLen w _ _ _ (by unfold maxLen;omega)) (λ i x hx=>by
     simp only[EH,AS] at hx;cases hb:l[i]? with
     | none=>rw[hb] at hx;cases hx
     | some b=>rw[hb] at hx;cases hx;rfl)
   (by
     have h1:=grownCap_ge w l.length 0 e;simp[Lib.bytesCells,GH];omega)
   (λ i x j y hx hy=>by
     simp only[EH,AS] at hx;cases hb:l[i]? with
     | none=>rw[hb] at hx;cases hx
     | some b=>
       rw[hb] at hx;cases hx;have Cv:=(Ao.1 hb).1;cases j with
       | succ j=>simp at hy
       | zero=>
         simp only[AK,Al] at hy;subst hy;have:(Lib.bytesCells w e ⟨l.toArray⟩).getD (i*1+0) undef= .int .u8 b.toNat:=by
           rw[At];simp[Lib.bytesCells,Array.getElem?_append,Cv];have:=(Ao.1 hb).2;rw[this]
         rw[this];exact .int _ _)
 rw[hlen] at S4;unfold Oper.wp;have hex:(execOp a.eval o).run P w= .ok (.value (.slice (some ⟨w.heap.size,0,none⟩) (⟨l.toArray⟩:ByteArray).size (grownCap w (⟨l.toArray⟩:ByteArray).size 0 e))) (Lib.bytesWorld w e ⟨l.toArray⟩):=by
   simp only[execOp,ho,ME];simp[DE]
 rw[hex,GH];rw[<-hq] at h;exact ⟨_,_,_,h,J5.put S4 o.dst⟩
end
end Go.Am
namespace Go.Am
open Go
theorem HH(h e:Hp)(j:Nat):get (h++e) j=match get h j with | some o=>some o | none=>get e j:=by
 induction h with
 | nil=>rfl
 | cons x r ih=>
   obtain ⟨k,o⟩:=x;simp only[A6,Cw];split
   . rfl
   . exact ih
theorem B2.Gi{P:Program}{f:FuncId}{args:List D}{h:Hp}{R:Hp->D->Prop}{id g:Nat}{cs:List Pd}(hc:B2 P f args h R)(hid:base<=id)(hn:get h id=none)
   (Avf:((DB args++Ey h).all λ i=>(get h i).isSome)=true) (hRn:∀h1 r,R h1 r->get h1 id=none):
   B2 P f args (h++[(id,.Gi g cs)]) λ h' r=>∃h1,R h1 r/\h'=h1++[(id,.Gi g cs)]:=by
 intro vs w F M hHR hFl hsb hd;have Cx:∀j o,get h j=some o->get (h++[(id,AO.Gi g cs)]) j=some o:=λ j o ho=>by rw[HH,ho]
 have hgl:get (h++[(id,AO.Gi g cs)]) id=some (.Gi g cs):=by rw[HH,hn];simp[Cw]
 have ON:∀i,i∈DB args++Ey h->∃o,get h i=some o:=λ i hi=>Bt.1 (AB.1 Avf i hi)
 let ρ:Nat->Option Nat:=λ i=>if (get h i).isSome then some i else none
 have hρ:∀i j,ρ i=some j->sg (h++[(id,AO.Gi g cs)]) i≠none->M j=M i/\sg h j=sg (h++[(id,AO.Gi g cs)]) i:=by
   intro i j hj _;simp only[ρ] at hj;split at hj
   . rename_i hs;simp only[Al] at hj;subst hj;obtain ⟨o,ho⟩:=Bt.1 hs;exact ⟨rfl,by simp[sg,ho,Cx _ _ ho]⟩
   . cases hj
 have Ayc:∀i,(∃o,get h i=some o)->ρ i=some i:=λ i ⟨o,ho⟩=>by simp[ρ,ho]
 have Amq:HR F w M h:=by
   constructor
   . intro i o ho;have:=(hHR.obj i o (Cx i o ho)).Ek (M':=M) hρ;rwa[AO.Rk (λ j hj=>Ayc j (ON j (List.mem_append_right _ (RL ho hj))))] at this
   . intro i o i' o' b ho N7 CT Ez;exact hHR.inj i o i' o' b (Cx _ _ ho) (Cx _ _ N7) CT Ez
 have OD:KA F w M (sg h) args vs.toList:=by
   refine ⟨hd.1,λ i d hi=>?_⟩;have:=(hd.2 i d hi).Ek (M':=M) hρ;rwa[Rk (λ j hj=>Ayc j (ON j (BL _ ?_)))] at this;clear this;have Fe:∀(l:List D) (i:Nat),l[i]?=some d->j∈DB l:=by
     intro l
     induction l with
     | nil=>intro i hi;simp at hi
     | cons x r ih=>
       intro i hi;simp only[DB,Aw];cases i with
       | zero=>simp only[AK,Al] at hi;subst hi;exact .inl hj
       | succ i=>exact .inr (ih i (by simpa using hi))
   exact Fe args i hi
 have Ama:∀b,E8 M (h++[(id,AO.Gi g cs)]) b↔E8 M h b:=by
   intro b;constructor
   . rintro ⟨i,o,ho,CT⟩;rw[HH] at ho;cases hg:get h i with
     | some o2=>rw[hg] at ho;cases ho;exact ⟨i,_,hg,CT⟩
     | none=>
       rw[hg] at ho;simp only[Cw] at ho;split at ho
       . cases ho;exact CT.elim
       . simp[get] at ho
   . rintro ⟨i,o,ho,CT⟩;exact ⟨i,o,Cx _ _ ho,CT⟩
 refine (hc vs w F M Amq hFl (λ i hi=>hsb i (by
   unfold sg at hi ⊢;cases hg:get h i with
   | none=>rw[hg] at hi;exact (hi rfl).elim
   | some o=>rw[Cx _ _ hg];simp)) OD).mono ?_
 rintro e w' ⟨v,h1,r,F',M',rfl,hR,V6,Avm,hK⟩;have Yk:=hRn h1 r hR;have Amg:∀b,F b->w'.heap[b]?=w.heap[b]?:=λ b hb=>hK.N2 b (hFl b hb) (λ ho=>Amq.JL ho hb)
 let M2:Nat->Mb:=λ i=>if i=id then M id else M' i
 have hM2:∀i,i≠id->M2 i=M' i:=λ i hi=>by simp[M2,hi]
 have Dt:∀i o,get h1 i=some o->i≠id:=λ i o ho e=>by subst e;rw[Yk] at ho;cases ho
 have Lb:∀j o,get h1 j=some o->get (h1++[(id,AO.Gi g cs)]) j=some o:=λ j o ho=>by rw[HH,ho]
 have Bc0:get (h1++[(id,AO.Gi g cs)]) id=some (.Gi g cs):=by rw[HH,Yk];simp[Cw]
 have Adu:∀j o,get (h1++[(id,AO.Gi g cs)]) j=some o->get h1 j=some o∨(j=id/\o= .Gi g cs):=by
   intro j o ho;rw[HH] at ho;cases hg:get h1 j with
   | some o2=>rw[hg] at ho;exact .inl ho
   | none=>
     rw[hg] at ho;simp only[Cw] at ho;split at ho
     . rename_i e;cases ho;exact .inr ⟨e.symm,rfl⟩
     . simp[get] at ho
 have Nj:∀i s,sg h1 i=some s->sg (h1++[(id,AO.Gi g cs)]) i=some s/\M2 i=M' i:=by
   intro i s hs;unfold sg at hs ⊢;cases hg:get h1 i with
   | none=>rw[hg] at hs;cases hs
   | some o=>rw[hg] at hs;rw[Lb _ _ hg];exact ⟨hs,hM2 i (Dt i o hg)⟩
 have Axo:C1 M' M2 (sg h1) (sg (h1++[(id,AO.Gi g cs)])):=
   ⟨λ i hi=>⟨(Nj i _ hi).1,by rw[(Nj i _ hi).2]⟩,λ i sz n hi=>⟨n,(Nj i _ hi).1,Ai _,λ _=>(Nj i _ hi).2⟩,λ i sz n kk hi=>⟨n,kk,(Nj i _ hi).1,Ai _,Ai _,λ _=>by rw[(Nj i _ hi).2];exact ⟨rfl,rfl⟩,λ _=>by rw[(Nj i _ hi).2]⟩⟩
 refine ⟨v,h1++[(id,.Gi g cs)],r,F',M2,rfl,⟨h1,hR,rfl⟩,⟨λ j o ho=>?_,λ i o i' o' b ho N7 CT Ez=>?_⟩,Avm.CW (λ _ _=>rfl) (λ _ h=>h) Axo,?_⟩
 . rcases Adu j o ho with h2 | ⟨rfl,rfl⟩
   . have h3:=V6.obj j o h2;rw[hM2 j (Dt j o h2)];exact h3.CW (λ _ _=>rfl) (λ _ h=>h) Axo (λ b CT=>⟨rfl,V6.JL ⟨j,o,h2,CT⟩⟩)
   . obtain ⟨h4,row,t,fr,h5,h7,h6⟩:=hHR.obj j _ hgl;exact ⟨hK.F0 _ h4,row,t,fr,by rw[Amg _ h4];exact h5,h7,λ q c hq=>(h6 q c hq).CW Amg hK.F0⟩
 . rcases Adu i o ho with h2 | ⟨rfl,rfl⟩
   . rcases Adu i' o' N7 with h3 | ⟨rfl,rfl⟩
     . rw[hM2 i (Dt i o h2)] at CT;rw[hM2 i' (Dt i' o' h3)] at Ez;exact V6.inj i o i' o' b h2 h3 CT Ez
     . exact Ez.elim
   . exact CT.elim
 . refine ⟨hK.os,hK.tape,hK.output,hK.size,λ b hb hO=>hK.N2 b hb (λ h2=>hO ((Ama b).2 h2)),hK.F0,λ b hb=>?_,hK.Fl,?_,?_,hsb⟩
   . rcases hK.Fn b hb with h2 | h2 | h2
     . exact .inl h2
     . exact .inr (.inl ((Ama b).2 h2))
     . exact .inr (.inr h2)
   . rintro b ⟨i,o,ho,CT⟩;rcases Adu i o ho with h2 | ⟨rfl,rfl⟩
     . rw[hM2 i (Dt i o h2)] at CT;rcases hK.own _ ⟨i,o,h2,CT⟩ with h3 | h3
       . exact .inl ((Ama _).2 h3)
       . exact .inr h3
     . exact CT.elim
   . have Hk:=hK.XQ;refine ⟨λ i hi=>?_,λ i sz n hi=>?_,λ i sz n kk hi=>?_⟩
     . by_cases e:i=id
       . subst e;exact ⟨by simp[sg,Bc0,AO.sg],by simp[M2]⟩
       . have Ea:sg (h++[(id,AO.Gi g cs)]) i=some .box:=hi;have UB:sg h i=some .box:=by
           clear hi;unfold sg at Ea ⊢;rw[HH] at Ea;cases hg:get h i with
           | some o=>rw[hg] at Ea;exact Ea
           | none=>rw[hg] at Ea;simp[Cw,get,Bc e] at Ea
         obtain ⟨h2,h3⟩:=Hk.1 i UB;exact ⟨(Nj i _ h2).1,by rw[(Nj i _ h2).2];exact h3⟩
     . have e:i≠id:=by rintro rfl;simp[sg,hgl,AO.sg] at hi
       have Ea:sg (h++[(id,AO.Gi g cs)]) i=some (.arr sz n):=hi;have UB:sg h i=some (.arr sz n):=by
         clear hi;unfold sg at Ea ⊢;rw[HH] at Ea;cases hg:get h i with
         | some o=>rw[hg] at Ea;exact Ea
         | none=>rw[hg] at Ea;simp[Cw,get,Bc e] at Ea
       obtain ⟨n',h2,h3,h4⟩:=Hk.2.1 i sz n UB;exact ⟨n',(Nj i _ h2).1,h3,λ e2=>by rw[(Nj i _ h2).2];exact h4 e2⟩
     . have e:i≠id:=by rintro rfl;simp[sg,hgl,AO.sg] at hi
       have Ea:sg (h++[(id,AO.Gi g cs)]) i=some (.DF sz n kk):=hi;have UB:sg h i=some (.DF sz n kk):=by
         clear hi;unfold sg at Ea ⊢;rw[HH] at Ea;cases hg:get h i with
         | some o=>rw[hg] at Ea;exact Ea
         | none=>rw[hg] at Ea;simp[Cw,get,Bc e] at Ea
       obtain ⟨n',k',h2,h3,h3',h4,h4'⟩:=Hk.2.2 i sz n kk UB;exact ⟨n',k',(Nj i _ h2).1,h3,h3',λ e2=>by rw[(Nj i _ h2).2];exact h4 e2,λ e2=>by rw[(Nj i _ h2).2];exact h4' e2⟩
end Go.Am
namespace Go.Am
open Go Go.ChangeShapes Go.RowKit
section
variable {P:Program} {w:World} {F:Nat->Prop} {M:Nat->Mb} {s:Nat->Option Sg} {m:Mb}
end
section
variable {H:Type} {enc:TypeId×Value->H} {P:Program} {W:World}
end
end Go.Am
namespace Go.Am
open Go Go.ChangeShapes Go.RowKit
section
variable {P:Program}
end
end Go.Am
namespace Go.Am
open Go Go.ChangeShapes Go.RowKit
def Apu(P:Program)(t:TypeId):Bool:=match P.underlying t with
 | some (.struct _)=>true
 | some (.array _ _)=>true
 | _=>false
def R5{H:Type}(P:Program)(t:TypeId)(d:DataW H):D:=if Apu P t then .agg ((E7 d).map .p) else Apr d
section
variable {H:Type} {enc:TypeId×Value->H} {P:Program} {W:World}
theorem Acs{t:TypeId}{v:Value}{d:DataW H}{ps:List MemPlace}{sp:Nat->Bool}{M:Nat->Mb}{s:Nat->Option Sg}(ht:EF P 30 t=true){bs:Nat}(Qx:Value.okWide P W .any bs t v)
   (h:DataW.Trod enc P W 0 sp true t v d ps):DR (λ b=>b<W.heap.size) W M s (R5 P t d) v:=by
 unfold R5;split
 . rename_i ha;obtain ⟨fuel,hf⟩:=h;have h1:=At8 (F:=λ b=>b<W.heap.size) (λ _ h=>h) 30 t ht _ _ _ hf;obtain ⟨cs,rfl⟩:∃cs,v= .agg cs:=by
     unfold Apu at ha;unfold Value.okWide Cell.okWide Cell.ok at Qx;cases hu:P.underlying t with
     | none=>rw[hu] at ha;cases ha
     | some u=>
       rw[hu] at ha Qx;cases u<;>simp at ha;all_goals
         cases v with
         | agg cs=>exact ⟨cs,rfl⟩
         | _=>simp at Qx
   refine .agg _ cs (by simpa [Value.cells] using h1.1.symm) λ i c hc=>?_;rw[AS] at hc;cases hx:(E7 d)[i]? with
   | none=>rw[hx] at hc;cases hc
   | some x=>
     rw[hx] at hc;cases hc;have:=h1.2 i x hx;simp only[Value.cells] at this;rw[Av,Bj] at this;rw[At];exact .p this
 . rename_i ha;refine Aj4 ?_ Qx h;unfold Aug;unfold Apu at ha;rw[ht,A7];split<;>simp_all
theorem SQ{bs:Nat}{sp:Nat->Bool}{M:Nat->Mb}{s:Nat->Option Sg}:∀{ts:List TypeId} {vs:List Value} {ds:List (DataW H)} {ps:List MemPlace},(ts.all (EF P 30))=true->
   (∀(j:Nat) t v,ts[j]?=some t->vs[j]?=some v->Value.okWide P W .any bs t v)->DataW.TrodAll enc P W 0 sp true ts vs ds ps->KA (λ b=>b<W.heap.size) W M s (List.zipWith (R5 P) ts ds) vs
 | [],vs,ds,ps,_,_,h=>by
   obtain ⟨rfl,rfl,_⟩:=trodAll_nil h;exact ⟨rfl,λ i d hd=>by simp at hd⟩
 | t::ts,vs,ds,ps,ht,Qx,h=>by
   obtain ⟨v,vs',d,r8,p,q,rfl,rfl,_,h1,h2⟩:=trodAll_cons h;simp only[List.all_cons,As] at ht;have h3:=Acs (M:=M) (s:=s) ht.1 (Qx 0 t v rfl rfl) h1;have h4:=SQ (M:=M) (s:=s) ht.2 (λ j t v h5 h6=>Qx (j+1) t v (by simpa using h5) (by simpa using h6)) h2;refine ⟨by simp only[List.zipWith_cons_cons,An,h4.1],λ i x hx=>?_⟩;cases i with
   | zero=>simp only[List.zipWith_cons_cons,List.getElem?_cons_zero,Option.some.injEq] at hx;subst hx;simpa [List.getD] using h3
   | succ i=>simp only[List.zipWith_cons_cons,List.getElem?_cons_succ] at hx;simpa [List.getD] using h4.2 i x hx
theorem Vn{W':World}{sp:Nat->Bool}(hW:∀b,b<W.heap.size->W'.heap[b]?=W.heap[b]?):∀{ts:List TypeId} {vs:List Value} {ds:List (DataW H)} {ps:List MemPlace},(ts.all (EF P 30))=true->
   DataW.TrodAll enc P W 0 (λ _=>true) true ts vs ds ps->(∀p∈ps,sp p.block=true)->(∀p∈ps,p.block<W.heap.size)->DataW.TrodAll enc P W' 0 sp true ts vs ds ps
 | [],vs,ds,ps,_,h,_,_=>by
   obtain ⟨rfl,rfl,rfl⟩:=trodAll_nil h;exact trodAll_mk0
 | t::ts,vs,ds,ps,ht,h,H8,Cv=>by
   obtain ⟨v,vs',d,r8,p,q,rfl,rfl,rfl,⟨n,h1⟩,h2⟩:=trodAll_cons h;simp only[List.all_cons,As] at ht;have h3:=Auf 30 t ht.1 n _ _ h1 (sp:=sp) (λ p hp=>H8 p (by simp[hp]));have h4:=DataW.trod_carry n t _ _ h3 (w':=W') (λ p hp=>by
     have:=hW p.block (Cv p (by simp[hp]));cases p with
     | cell b o=>simp only[MemPlace.block] at this;simp[World.sameAt,World.cell?,this]
     | map b=>exact this)
   exact trodAll_cons_mk ⟨n,h4⟩ (Vn hW ht.2 h2 (λ p hp=>H8 p (by simp[hp])) (λ p hp=>Cv p (by simp[hp])))
theorem Zg{held:Bool}{W:World}{sp:Nat->Bool}:∀{ts:List TypeId} {vs:List Value} {ds:List (DataW H)} {ps:List MemPlace},(ts.all (EF P 30))=true->DataW.TrodAll enc P W 0 sp held ts vs ds ps->
   ds.length=ts.length/\∀(i:Nat) t d,ts[i]?=some t->ds[i]?=some d->YT P 30 t (E7 d)
 | [],vs,ds,ps,_,h=>by
   obtain ⟨rfl,rfl,_⟩:=trodAll_nil h;exact ⟨rfl,λ i t d h=>by simp at h⟩
 | t::ts,vs,ds,ps,ht,h=>by
   obtain ⟨v,vs',d,r8,p,q,rfl,rfl,_,⟨n,h1⟩,h2⟩:=trodAll_cons h;simp only[List.all_cons,As] at ht;obtain ⟨h3,h4⟩:=Zg ht.2 h2;refine ⟨by simp[h3],λ i t' d' hi hd=>?_⟩;cases i with
   | zero=>simp only[AK,Al] at hi hd;subst hi hd;exact Aqm 30 _ ht.1 _ _ _ h1
   | succ i=>simp only[List.getElem?_cons_succ] at hi hd;exact h4 i t' d' hi hd
theorem get_mem{α:Type}:∀{h:List (Nat×α)} {i:Nat} {o:α},get h i=some o->(i,o)∈h
 | [],i,o,h=>by simp[get] at h
 | (k,x)::r,i,o,h=>by
   simp only[get] at h;split at h
   . rename_i e;cases h;subst e;simp
   . exact List.mem_cons_of_mem _ (get_mem h)
theorem Abn{bs:Nat}{f:FuncId}{fn:Func}{s:ChangeSpec}{args:Array Value}{ds gs:List (DataW H)}{before:List MemPlace}{tb:TypeId}(Ajw:List (Nat×List Pd))
   (IN:∀(j:Nat) t v,fn.params[j]?=some t->args[j]?=some v->Value.okWide P W .any bs t v)
   (hW:DataW.Whole enc P fn.params.toList s.vars false W args.toList ds gs before) (hv:s.vars=[])
   (ht:fn.params.toList.all (EF P 30)=true) (Kd:fn.resultTypes=#[tb]) (htb:P.underlying tb=some .bool)
   (hs:s.fn H ds={results:=[.lit (.bool true)],args:=ds})
   (UE:Enters P f) (hgl:∀x∈Ajw,∀(M:Nat->Mb) s m,Wg (λ b=>b<W.heap.size) W M s m (.Gi x.1 x.2)) (h:Hp) (hh:h=Ajw.mapIdx λ i x=>(base+i,AO.Gi x.1 x.2))
   (hc:B2 P f (List.zipWith (R5 P) fn.params.toList ds) h λ h' r=>r= .p (.bool true)):
   Calls P f args W λ e W'=>∃v,e= .returned v/\s.post enc P fn false true false false W args v W':=by
 have hW0:=hW;obtain ⟨p,q,hA,hV,rfl,hfz,hnd⟩:=hW;rw[hv] at hV;obtain ⟨rfl,rfl⟩:=trodVars_none hV;have Cv:∀x∈p,x.block<W.heap.size:=λ x hx=>hW0.lt x (by simp[hx]);have Cx:∀i o,get h i=some o->base<=i/\∃x∈Ajw,o= .Gi x.1 x.2:=by
   intro i o h1;have h2:=get_mem h1;rw[hh,List.mem_mapIdx] at h2;obtain ⟨j,hj,e⟩:=h2;simp only[BV] at e;obtain ⟨rfl,rfl⟩:=e;exact ⟨Nat.le_add_right _ _,_,AN _,rfl⟩
 have Oz:∀(M:Nat->Mb) b,¬E8 M h b:=by
   rintro M b ⟨i,o,h1,h2⟩;obtain ⟨_,x,_,rfl⟩:=Cx i o h1;exact h2
 have Am6:=(hc args W (λ b=>b<W.heap.size) (λ _=>⟨0,0,[]⟩) ⟨λ id o h=>by obtain ⟨_,x,hx,rfl⟩:=Cx id o h;exact hgl x hx _ _ _,λ id o PW o' b h _ h2=>by obtain ⟨_,x,_,rfl⟩:=Cx id o h;exact h2.elim⟩ (λ _ h=>h)
   (λ id h1=>by
     unfold sg at h1;cases h2:get h id with
     | none=>rw[h2] at h1;exact (h1 rfl).elim
     | some o=>exact (Cx id o h2).1)
   (SQ ht (λ j t v h1 h2=>IN j t v (by simpa using h1) (by simpa using h2)) hA))
 have Pu:=Am6.resolve_right (λ ⟨v,w',h1,_⟩=>by rw[UE] at h1;cases h1);refine Pu.2.mono ?_;rintro e W' ⟨v,h',r,F',M',rfl,rfl,_,hd,hk⟩;obtain rfl:v= .bool true:=by cases hd with | p hd=>cases hd;rfl
 have hold:∀b,b<W.heap.size->W'.heap[b]?=W.heap[b]?:=λ b hb=>hk.N2 b hb (Oz _ b);refine ⟨_,rfl,ds,[],p++[],[],p,[],by simpa using hW0,?_,?_,?_,Z0 hk.os hk.output hold _,λ h=>by cases h⟩
 . rw[List.append_nil,hs,Kd];exact trodAll_cons_mk (shut_bool htb _) trodAll_mk0
 . rw[List.append_nil,hs];exact Vn hold ht hA (λ x hx=>by simpa using Cv x hx) Cv
 . rw[List.append_nil,hs,hv];rfl
end
end Go.Am
namespace Go.Am
open Go
section
variable {P:Program} {c:Ctx} {st:St} {a:Act} {w w':World} {F:Nat->Prop} {M:Nat->Mb} {s:Nat->Option Sg}
end
end Go.Am
namespace Go.Am
open Go
section
variable {P:Program} {ops rest:List Oper} {k:Kt} {st:St} {o:Oper}
theorem XF{c:Call}{x:Operand}{id t:Nat}{l:List (Pd×Pd)}{kk:KK}{z:Pd}(ho:o.op= .call c)(hc:c.callee= .builtin .len)(ha:c.args=#[x])(ht:c.argTypes=#[t])
   (hm:mapOf P t=some (kk,z)) (hx:ev st x= .mv id) (hg:get st.hp id=some (.mp l)) (h:O P true ops rest k (st.put o.dst (.p (.int .i64 (l.length:Nat))))):Af P true ops rest k o st .fail:=by
 refine Ig λ ct a w F M Q hr=>?_;obtain ⟨kt,e,d,ii,zv,hu,hk,hd,Ea,hz,rfl,hzf⟩:=LN hm;obtain ⟨Mn,⟨es,clock,hb,J8⟩,QA⟩:=hr.heap.obj id _ hg;have hv:=Co hr x;rw[hx] at hv;generalize ME:a.eval x=v at hv;cases hv with
 | mv _ hs=>
   have hlen:es.size=l.length:=by have:=congrArg List.length J8;simpa using this
   unfold Oper.wp;have hex:(execOp a.eval o).run P w= .ok (.value (.int .i64 (l.length:Nat))) w:=by
     simp[execOp,ho,hc,ha,ht,ME,resolve,invoke,builtin,Builtin.len_,run_underlying hu,MapKept.run_getObj_map hb,Result.andThen,goInt,hlen]
   rw[hex];exact ⟨_,F,M,h,hr.put (.p (.int _ _)) o.dst⟩
def Ov(k:Pd):List (Pd×Pd)->List (Pd×Pd)
 | []=>[]
 | (k',v')::r=>if Pd.same k k'=some true then r else (k',v')::Ov k r
theorem WM{kk:KK}{key:Pd}{d:TypeDesc}(hd:match kk with | .int x=>d= .int x | .str=>d= .string)(hf:kk.fit key=true):
   ∀(es:List MapEntry) (l:List (Pd×Pd)) (n:Nat),es.map (λ e=>(e.key,e.val))=l.map (λ p=>(p.1.val,p.2.val))->RC key l->
     (∃v i,Instr.findNow d key.val es n=some (some (n+i,v))/\(es.eraseIdx i).map (λ e=>(e.key,e.val))=(Ov key l).map (λ p=>(p.1.val,p.2.val)))∨
     (Instr.findNow d key.val es n=some none/\Ov key l=l)
 | [],[],n,_,_=> .inr ⟨rfl,rfl⟩
 | [],_::_,n,h,_=>by simp at h
 | _::_,[],n,h,_=>by simp at h
 | e::es,(q,v)::l,n,h,hm=>by
   simp only[AH,List.cons.injEq,BV] at h;obtain ⟨⟨h1,h2⟩,h3⟩:=h;unfold RC Mj at hm;cases hs:Pd.same key q with
   | none=>rw[hs] at hm;simp at hm
   | some b=>
     have hn:=Pd.TL hd hf hs;cases b with
     | true=>exact .inl ⟨e.val,0,by simp[Instr.findNow,h1,hn],by simp[Ov,hs,h3]⟩
     | false=>
       rw[hs] at hm;rcases WM hd hf es l (n+1) h3 hm with ⟨v',i,g1,g2⟩ | ⟨g1,g2⟩
       . refine .inl ⟨v',i+1,?_,by simp[Ov,hs,h1,h2,g2]⟩;simp only[Instr.findNow,h1,hn,g1];congr 3;omega
       . exact .inr ⟨by simp only[Instr.findNow,h1,hn,g1],by simp[Ov,hs,g2]⟩
theorem R7{c:Call}{x y:Operand}{id t t2:Nat}{l:List (Pd×Pd)}{kk:KK}{z key:Pd}(ho:o.op= .call c)(hc:c.callee= .builtin .delete)(ha:c.args=#[x,y])(ht:c.argTypes=#[t,t2])
   (hm:mapOf P t=some (kk,z)) (hx:ev st x= .mv id) (hy:ev st y= .p key) (hf:kk.fit key=true) (hg:get st.hp id=some (.mp l)) (OC:RC key l)
   (h:O P true ops rest k (({st with hp:=Cz st.hp id (.mp (Ov key l))}:St).put o.dst (.Dv []))):Af P true ops rest k o st .fail:=by
 refine Ig λ ct a w F M Q hr=>?_;obtain ⟨kt,e,d,ii,zv,hu,hk,hd,Ea,hz,rfl,hzf⟩:=LN hm;obtain ⟨Mn,⟨es,clock,hb,J8⟩,QA⟩:=hr.heap.obj id _ hg;have hv:=Co hr x;rw[hx] at hv;generalize ME:a.eval x=v at hv;have Us:=Co hr y;rw[hy] at Us;generalize hvy:a.eval y=v2 at Us;have Cx:∀j,get (Cz st.hp id (.mp (Ov key l))) j=if j=id then some (.mp (Ov key l)) else get st.hp j:=CU _ _ _
 have G7:=DJ Cx hg rfl;cases hv with
 | mv _ hs=>
   cases Us with
   | p hi=>
     have hvi:v2=key.val:=by cases hi<;>first | rfl | (cases kk<;>simp[KK.fit] at hf)
     subst hvi;have hck:∀b,(Instr.checkKey b 10000 kt key.val).run P w= .ok () w:=λ b=>MapKept.run_checkKey hk (RF hd hf) b 9999;have Aru:∀p∈Ov key l,p.2.flat=true:=by
       clear Cx G7 J8 hg OC h
       induction l with
       | nil=>intro p hp;simp[Ov] at hp
       | cons q r ih=>
         intro p hp;simp only[Ov] at hp;split at hp
         . exact QA p (by simp[hp])
         . rcases AG.1 hp with rfl | hp
           . exact QA _ (by simp)
           . exact ih (λ p hp=>QA p (by simp[hp])) p hp
     have hch:∀(OE:Array MapEntry),OE.toList.map (λ e=>(e.key,e.val))=(Ov key l).map (λ p=>(p.1.val,p.2.val))->
         Rel ct {st with hp:=Cz st.hp id (.mp (Ov key l))} a {w with heap:=w.heap.setIfInBounds (M id).DQ (.map OE clock)} F M:=by
       intro OE h1;have E2:=MapKept.heap_set (o':= .map OE clock) hb;refine hr.change (M':=M) Cx (λ _ _=>rfl) (by rw[G7];exact C1.refl _ _) rfl rfl rfl (by simp) (λ b W1 Dt=>E2.2 b (Dt _ hg)) ⟨Mn,⟨OE,clock,E2.1,h1⟩,Aru⟩ (λ b W1=> .inl ⟨_,hg,W1⟩)
     unfold Oper.wp;rcases WM hd hf es.toList l 0 J8 OC with ⟨v',i,g1,g2⟩ | ⟨g1,g2⟩
     . have hex:(execOp a.eval o).run P w= .ok (.value (.tuple #[])) {w with heap:=w.heap.setIfInBounds (M id).DQ (.map (es.eraseIdxIfInBounds i) clock)}:=by
         simp[execOp,ho,hc,ha,ht,ME,hvy,resolve,invoke,builtin,Builtin.delete_,run_underlying hu,MapKept.run_getObj_map hb,hck,MapKept.run_findKey hk g1,Result.andThen,MapKept.run_setObj_map _ hb]
       rw[hex];exact ⟨_,F,M,h,(hch _ (by rw[Array.toList_eraseIdxIfInBounds];exact g2)).put (.Dv [] #[] rfl (λ i d hd=>by simp at hd)) o.dst⟩
     . have hex:(execOp a.eval o).run P w= .ok (.value (.tuple #[])) {w with heap:=w.heap.setIfInBounds (M id).DQ (.map es clock)}:=by
         simp[execOp,ho,hc,ha,ht,ME,hvy,resolve,invoke,builtin,Builtin.delete_,run_underlying hu,MapKept.run_getObj_map hb,hck,MapKept.run_findKey hk g1,Result.andThen,MapKept.run_setObj_map _ hb]
       rw[hex];exact ⟨_,F,M,h,(hch _ (by rw[g2];exact J8)).put (.Dv [] #[] rfl (λ i d hd=>by simp at hd)) o.dst⟩
end
def KD(m:List (List UInt8×Int)):List (Pd×Pd):=m.map λ p=>(.str p.1,.int .i64 p.2)
def Es(m:List (List UInt8×Int))(k:List UInt8):Option Int:=(m.find? λ p=>p.1==k).map (·.2)
def IJ(m:List (List UInt8×Int))(k:List UInt8)(v:Int):List (List UInt8×Int):=match m with
 | []=>[(k,v)]
 | p::r=>if p.1=k then (k,v)::r else p::IJ r k v
theorem X8(k:List UInt8):∀m,Mj (.str k) (KD m)=some ((Es m k).map (.int .i64))
 | []=>rfl
 | p::r=>by
   have ih:=X8 k r;simp only[KD,AH,Mj,Pd.same,Es,List.find?_cons] at ih ⊢;by_cases h:p.1=k
   . simp[h]
   . have h1:(k==p.1)=false:=by simpa using Ne.symm h
     have h2:(p.1==k)=false:=by simpa using h
     rw[h1,h2];exact ih
theorem DW(k:List UInt8)(m):RC (.str k) (KD m):=by unfold RC;rw[X8];rfl
theorem D6(k:List UInt8)(m):Ub (.str k) (KD m)=(Es m k).map (.int .i64):=by unfold Ub;rw[X8];rfl
theorem Ua(k:List UInt8)(v:Int):∀m,KZ (.str k) (.int .i64 v) (KD m)=KD (IJ m k v)
 | []=>rfl
 | p::r=>by
   have ih:=Ua k v r;simp only[KD] at ih;simp only[KD,AH,KZ,Pd.same,IJ];by_cases h:p.1=k
   . simp[h]
   . have h1:(k==p.1)=false:=by simpa using Ne.symm h
     simp[h1,h,ih]
theorem Abl(m)(k:List UInt8)(z:Int)(ok:Bool):EV (.int .i64 z) ok ((Es m k).map (.int .i64))=if ok then .Dv [.p (.int .i64 ((Es m k).getD z)),.p (.bool (Es m k).isSome)] else .p (.int .i64 ((Es m k).getD z)):=by
 unfold EV;cases Es m k<;>rfl
theorem Adj(m):(KD m).length=m.length:=by simp[KD]
theorem X5:KD []=[]:=rfl
def X7(m:List (Int×Bool)):List (Pd×Pd):=m.map λ p=>(.int .i64 p.1,.bool p.2)
def Je(m:List (Int×Bool))(k:Int):Option Bool:=(m.find? λ p=>p.1==k).map (·.2)
def Rq(m:List (Int×Bool))(k:Int)(v:Bool):List (Int×Bool):=match m with
 | []=>[(k,v)]
 | p::r=>if p.1=k then (k,v)::r else p::Rq r k v
def Mz(m:List (Int×Bool))(k:Int):List (Int×Bool):=match m with
 | []=>[]
 | p::r=>if p.1=k then r else p::Mz r k
theorem X9(k:Int):∀m,Mj (.int .i64 k) (X7 m)=some ((Je m k).map .bool)
 | []=>rfl
 | p::r=>by
   have ih:=X9 k r;simp only[X7,AH,Mj,Pd.same,Je,List.find?_cons] at ih ⊢;by_cases h:p.1=k
   . simp[h]
   . have h1:(k==p.1)=false:=by simpa using Ne.symm h
     have h2:(p.1==k)=false:=by simpa using h
     simp only[h1,h2,AP];exact ih
theorem Uc(k:Int)(m):RC (.int .i64 k) (X7 m):=by unfold RC;rw[X9];rfl
theorem Alj(k:Int)(m):Ub (.int .i64 k) (X7 m)=(Je m k).map .bool:=by unfold Ub;rw[X9];rfl
theorem Abh(k:Int)(v:Bool):∀m,KZ (.int .i64 k) (.bool v) (X7 m)=X7 (Rq m k v)
 | []=>rfl
 | p::r=>by
   have ih:=Abh k v r;simp only[X7] at ih;simp only[X7,AH,KZ,Pd.same,Rq];by_cases h:p.1=k
   . simp[h]
   . have h1:(k==p.1)=false:=by simpa using Ne.symm h
     simp[h1,h,ih]
theorem Abi(k:Int):∀m,Ov (.int .i64 k) (X7 m)=X7 (Mz m k)
 | []=>rfl
 | p::r=>by
   have ih:=Abi k r;simp only[X7] at ih;simp only[X7,AH,Ov,Pd.same,Mz];by_cases h:p.1=k
   . simp[h]
   . have h1:(k==p.1)=false:=by simpa using Ne.symm h
     simp[h1,h,ih]
theorem Aln(m)(k:Int)(z:Bool)(ok:Bool):EV (.bool z) ok ((Je m k).map .bool)=if ok then .Dv [.p (.bool ((Je m k).getD z)),.p (.bool (Je m k).isSome)] else .p (.bool ((Je m k).getD z)):=by
 unfold EV;cases Je m k<;>rfl
theorem Adk(m):(X7 m).length=m.length:=by simp[X7]
theorem X6:X7 []=[]:=rfl
attribute [go_sem] LQ Kr KK.fit Pd.flat DW D6 Ua Abl Adj Uc Alj Abh Abi Aln Adk
end Go.Am
namespace Go.Am
open Go
def Apx(r:D):Prop:=r= .Dv []∨∃y,r= .p y
theorem Apx.dr{F:Nat->Prop}{w:World}{M M':Nat->Mb}{s s':Nat->Option Sg}{r:D}{v:Value}(h:Apx r)(hd:DR F w M s r v):DR F w M' s' r v:=by
 rcases h with rfl | ⟨y,rfl⟩
 . cases hd with | Dv _ vs hl hc=>exact .Dv [] vs hl (λ i c hi=>by simp at hi)
 . cases hd with | p hx=>exact .p hx
theorem Vv{P:Program}{f:FuncId}{ps:List Pd}{t e:TypeId}{sz k i n:Nat}{rows:List (List (List Pd))}{es:List (List Pd)}{R:Hp->D->Prop}{R':List (List Pd)->D->Prop}
   (hi:rows[i]?=some es) (hn:n=es.length) (hc:B2 P f (.ref 1000000 0 n n::ps.map D.p) [(1000000,.arr e sz es)] R)
   (hR:∀h' r,R h' r->∃OE,h'=[(1000000,.arr e sz OE)]/\OE.length=n/\Apx r/\R' OE r):
   B2 P f (.nr 1000000 i n k::ps.map D.p) [(1000000,.DF t e sz k rows none)] λ h' r=>∃OE,h'=[(1000000,.DF t e sz k (rows.set i OE) none)]/\OE.length=n/\R' OE r:=by
 subst hn;intro vs w F M hHR hFl hsb hd;have hg:get [(1000000,AO.DF t e sz k rows none)] 1000000=some (.DF t e sz k rows none):=rfl;have hN:Ie F w (M 1000000) t e sz rows none:=hHR.obj 1000000 _ hg;have Cv:i<rows.length:=(Ao.1 hi).1;obtain ⟨bc,hbc⟩:∃bc,(M 1000000).xs[i]?=some bc:=⟨_,Az (by rw[hN.xl];exact Cv)⟩;obtain ⟨M1,hM1⟩:∃M1:Nat->Mb,M1=λ _=>⟨bc.1,bc.2,[]⟩:=⟨_,rfl⟩;have Agi:∀j,M1 j=⟨bc.1,bc.2,[]⟩:=λ j=>by rw[hM1]
 have Avn:Vu F w ⟨bc.1,bc.2,[]⟩ e sz es:=hN.rows i es bc hi hbc (by simp);have Lb:∀{o:AO} {j:Nat} {o2:AO},get [(1000000,o)] j=some o2->j=1000000/\o2=o:=λ {o j o2} h=>by
   simp only[Cw] at h;split at h
   . rename_i e1;cases h;exact ⟨e1.symm,rfl⟩
   . cases h
 have Amq:HR F w M1 [(1000000,.arr e sz es)]:=by
   refine ⟨λ j o hj=>?_,λ j o j' o' b hj Hu _ _=>?_⟩
   . obtain ⟨rfl,rfl⟩:=Lb hj;rw[Agi];exact Avn
   . rw[(Lb hj).1,(Lb Hu).1]
 have hd0:DR F w M (sg [(1000000,.DF t e sz k rows none)]) (.nr 1000000 i es.length k) (vs.toList.getD 0 undef):=hd.2 0 _ rfl;have OD:KA F w M1 (sg [(1000000,.arr e sz es)]) (.ref 1000000 0 es.length es.length::ps.map D.p) vs.toList:=by
   refine ⟨by have:=hd.1;simpa using this,λ j d hj=>?_⟩;cases j with
   | zero=>
     simp only[AK,Al] at hj;subst hj;generalize vs.toList.getD 0 undef=v at hd0;cases hd0 with
     | nr _ _ _ _ Sb m k3 _ Pm hN2 hv hl=>
       have hs3:sg [(1000000,AO.DF t e sz k rows none)] 1000000=some (.DF sz rows.length k):=rfl;rw[Pm] at hs3;simp only[Al,Sg.DF.injEq] at hs3;obtain ⟨_,_,rfl⟩:=hs3;obtain ⟨bc2,g1,g2,ad,g3,g4⟩:=hl rfl;rw[hbc] at g1;cases g1;exact .ref 1000000 0 _ _ sz es.length _ rfl (Ai _) ⟨_,_,_,g3⟩ (λ _=>⟨ad,bc.2,g3,by omega,g2,by rw[Agi];simp,by rw[Agi];simpa using g4⟩)
   | succ j=>
     have h2:=hd.2 (j+1) d (by simpa using hj);simp only[List.getElem?_cons_succ,AS] at hj;cases hp:ps[j]? with
     | none=>rw[hp] at hj;cases hj
     | some p=>
       rw[hp] at hj;simp only[Bk,Al] at hj;subst hj;cases h2 with | p hx=>exact .p hx
 have Bbh:∀id,sg [(1000000,AO.arr e sz es)] id≠none->base<=id:=by
   intro id hs;refine hsb id ?_;unfold sg at hs ⊢;simp only[Cw] at hs ⊢;split
   . simp
   . rename_i h1;rw[if_neg h1] at hs;exact hs
 refine (hc vs w F M1 Amq hFl Bbh OD).mono λ ed w' hh=>?_;obtain ⟨v,h',r,F',M',he,hr,V6,Oa,hk⟩:=hh;obtain ⟨OE,rfl,hlen,hp,hR2⟩:=hR h' r hr;have J9:M' 1000000=⟨bc.1,bc.2,[]⟩:=by
   obtain ⟨n',g1,g2,g3⟩:=hk.XQ.2.1 1000000 sz es.length rfl;have:n'=OE.length:=by
     have:sg [(1000000,AO.arr e sz OE)] 1000000=some (.arr sz OE.length):=rfl;rw[this] at g1;simp only[Al,Sg.arr.injEq] at g1;exact g1.2.symm
   rw[g3 (by omega)];exact Agi _
 have Ayo:Vu F' w' ⟨bc.1,bc.2,[]⟩ e sz OE:=by have:=V6.obj 1000000 _ rfl;rw[J9] at this;exact this
 have Aun:∀b,E8 M1 [(1000000,AO.arr e sz es)] b↔bc.2≠0/\b=bc.1:=by
   intro b;constructor
   . rintro ⟨j,o,h1,h2⟩;obtain ⟨rfl,rfl⟩:=Lb h1;rw[Agi] at h2;exact h2
   . intro h;exact ⟨1000000,_,rfl,by rw[Agi];exact h⟩
 have Ax8:∀b,E8 M [(1000000,AO.DF t e sz k rows none)] b↔DU (M 1000000) b:=by
   intro b;constructor
   . rintro ⟨j,o,h1,h2⟩;obtain ⟨rfl,rfl⟩:=Lb h1;exact h2
   . intro h;exact ⟨1000000,_,rfl,h⟩
 have Ax7:∀b,E8 M [(1000000,AO.DF t e sz k (rows.set i OE) none)] b↔DU (M 1000000) b:=by
   intro b;constructor
   . rintro ⟨j,o,h1,h2⟩;obtain ⟨rfl,rfl⟩:=Lb h1;exact h2
   . intro h;exact ⟨1000000,_,rfl,h⟩
 have other:∀b,DU (M 1000000) b->¬(bc.2≠0/\b=bc.1)->w'.heap[b]?=w.heap[b]?/\¬F' b:=by
   intro b h1 h2;have Yl:b<w.heap.size:=hN.lt h1;refine ⟨hk.N2 b Yl (λ h3=>h2 ((Aun b).1 h3)),λ h3=>?_⟩;rcases hk.Fn b h3 with h4 | h4 | h4
   all_goals first
     | exact hN.JL h1 h4
     | exact h2 ((Aun b).1 h4)
     | exact absurd Yl (Nat.not_lt.2 h4)
 have Ake:∀{j r'},(rows.set i OE)[j]?=some r'->(i=j/\r'=OE)∨(i≠j/\rows[j]?=some r'):=by
   intro j r' h;by_cases e:i=j
   . subst e;rw[BA Cv] at h;exact .inl ⟨rfl,(Ac h).symm⟩
   . rw[List.getElem?_set_ne e] at h;exact .inr ⟨e,h⟩
 have hN':Ie F' w' (M 1000000) t e sz (rows.set i OE) none:=by
   refine ⟨hN.pos,by simpa using hN.xl,by simpa using hN.le,hN.max,λ Mx=>?_,λ j r' b' h1 h2 h3=>?_,λ j b' h1 _=>(by cases h1),hN.dis,hN.out⟩
   . obtain ⟨g1,row,g2,g3,g4⟩:=hN.outer Mx;obtain ⟨g5,g6⟩:=other (M 1000000).DQ (.inl ⟨Mx,rfl⟩) (λ h=>hN.out i bc hbc h.1 Mx h.2.symm);refine ⟨g6,row,by rw[g5];exact g2,g3,λ j r' b' h1 h2 h3=>?_⟩;rcases Ake h1 with ⟨rfl,rfl⟩ | ⟨_,h4⟩
     . rw[hlen];exact g4 i es b' hi h2 (by simp)
     . exact g4 j r' b' h4 h2 (by simp)
   . rcases Ake h1 with ⟨rfl,rfl⟩ | ⟨Dt,h4⟩
     . rw[hbc] at h2;cases h2;exact Ayo
     . refine (hN.rows j r' b' h4 h2 (by simp)).CW (λ b hb=>hk.N2 b (hFl b hb) (λ h=>Amq.JL h hb)) hk.F0 (λ SB=>other b'.1 (.inr ⟨j,b',h2,SB,rfl⟩) (λ h=>hN.dis i j bc b' hbc h2 Dt h.1 SB h.2.symm))
 refine ⟨v,_,r,F',M,he,⟨OE,rfl,hlen,hR2⟩,⟨λ j o hj=>?_,λ j o j' o' b hj Hu _ _=>?_⟩,hp.dr Oa,?_⟩
 . obtain ⟨rfl,rfl⟩:=Lb hj;exact hN'
 . rw[(Lb hj).1,(Lb Hu).1]
 . have N9:∀b,E8 M1 [(1000000,AO.arr e sz es)] b->E8 M [(1000000,AO.DF t e sz k rows none)] b:=λ b hb=>(Ax8 b).2 (.inr ⟨i,bc,hbc,(Aun b).1 hb⟩);refine ⟨hk.os,hk.tape,hk.output,hk.size,λ b h1 h2=>hk.N2 b h1 (λ h3=>h2 (N9 b h3)),hk.F0,λ b hb=>?_,hk.Fl,λ b hb=> .inl ((Ax8 b).2 ((Ax7 b).1 hb)),?_,hsb⟩
   . rcases hk.Fn b hb with h4 | h4 | h4
     . exact .inl h4
     . exact .inr (.inl (N9 b h4))
     . exact .inr (.inr h4)
   . have:sg [(1000000,AO.DF t e sz k (rows.set i OE) none)]=sg [(1000000,AO.DF t e sz k rows none)]:=by
       funext j
       unfold sg;simp only[Cw];split<;>simp[AO.sg]
     show C1 M M (sg [(1000000,AO.DF t e sz k rows none)]) (sg [(1000000,AO.DF t e sz k (rows.set i OE) none)])
     rw[this];exact C1.refl _ _
end Go.Am
namespace Go.Am
open Go
section
variable {P:Program} {c:Ctx} {st:St} {a:Act} {w:World} {F:Nat->Prop} {M:Nat->Mb}
theorem Rel.ZO(hr:Rel c st a w F M){q sz:Nat}{e e2:TypeId}(hn:get st.hp q=none)(FJ:0<sz):
   Rel c {st with hp:=(q,.DF e e2 sz 0 [] none)::st.hp} a w F (FU M q ⟨0,0,[]⟩)/\∀ad,DR F w (FU M q ⟨0,0,[]⟩) (sg ((q,.DF e e2 sz 0 [] none)::st.hp)) (.DI q 0) (.slice ad 0 0):=by
 have Cx:=LZ st.hp q (.DF e e2 sz 0 [] none);have hM:∀j,j≠q->FU M q ⟨0,0,[]⟩ j=M j:=λ j hj=>by simp[FU,hj]
 have J9:FU M q ⟨0,0,[]⟩ q=⟨0,0,[]⟩:=by simp[FU]
 have Hk:=G4 Cx hM hn;have Oz:∀b,¬DU ⟨0,0,[]⟩ b:=λ b h=>by
   rcases h with ⟨h,_⟩ | ⟨i,bc,h1,_⟩
   . exact h rfl
   . simp at h1
 refine ⟨hr.change Cx hM Hk rfl rfl rfl (Ai _) (λ b hb _=>rfl) ?_ (λ b h=>?_),λ ad=>?_⟩
 . rw[J9];exact ⟨FJ,rfl,by simp,by simp,λ h=>(h rfl).elim,λ i r bc h=>by simp at h,λ i bc h=>(by cases h),λ i j bi bj h=>by simp at h,λ i bi h=>by simp at h⟩
 . rw[J9] at h;exact (Oz b h).elim
 . exact .DI q 0 sz 0 0 _ (by rw[C9 Cx];simp[AO.sg]) (Ai _) ⟨_,_,rfl,.inl rfl⟩ (λ _=>⟨ad,0,rfl,by omega,by omega,by rw[J9],.inl rfl⟩)
def T5(e:TypeId):Ass where
 sg:= .arr 1 1
 holds:=λ F w m=>¬F m.DQ/\m.cap=1/\∃ad,w.heap[m.DQ]?=some (.cells #[.slice ad 0 0] e (0,0))
 Gz:=λ m b=>b=m.DQ
 CW:=λ h hw hF ho=>by
   obtain ⟨h1,h2,ad,h3⟩:=h;obtain ⟨h4,h5⟩:=ho _ rfl;exact ⟨h5,h2,ad,by rw[h4];exact h3⟩
 JL:=λ h hb=>by cases hb;exact h.1
 lt:=λ h hb=>by
   cases hb;obtain ⟨h1,h2,ad,h3⟩:=h;exact (Be.1 h3).1
 Avq:=λ h _ h2=>by
   obtain ⟨h1,h3,ad,h4⟩:=h;exact ⟨h1,h3,ad,by rw[h2 _ h1];exact h4⟩
theorem Rel.Ara(hr:Rel c st a w F M){q:Nat}{e:TypeId}{ad:Option Addr}(hn:get st.hp q=none):
   Rel c {st with hp:=(q,.Fv (T5 e))::st.hp} a (w.alloc (.cells #[.slice ad 0 0] e)) F (FU M q ⟨w.heap.size,1,[]⟩)/\
   DR F (w.alloc (.cells #[.slice ad 0 0] e)) (FU M q ⟨w.heap.size,1,[]⟩) (sg ((q,.Fv (T5 e))::st.hp)) (.ref q 0 1 1) (.slice (some ⟨w.heap.size,0,none⟩) 1 1):=by
 have Cx:=LZ st.hp q (.Fv (T5 e));have hM:∀j,j≠q->FU M q ⟨w.heap.size,1,[]⟩ j=M j:=λ j hj=>by simp[FU,hj]
 have J9:FU M q ⟨w.heap.size,1,[]⟩ q=⟨w.heap.size,1,[]⟩:=by simp[FU]
 have Hk:=G4 Cx hM hn;refine ⟨hr.change Cx hM Hk rfl rfl rfl (by simp) (λ b hb _=>alloc_old w _ b hb) ?_ (λ b hb=> .inr (by have:b=_:=hb;rw[this,J9];exact Ai _)),?_⟩
 . rw[J9];exact ⟨λ hF=>Nat.lt_irrefl _ (hr.CW.Fl _ hF),rfl,ad,heap_alloc_new w _⟩
 . exact .ref q 0 1 1 1 1 _ (by rw[C9 Cx,if_pos rfl];rfl) (Ai _) ⟨_,_,_,rfl⟩ (λ _=>⟨_,1,rfl,by omega,by omega,by rw[J9],.inr (by rw[J9])⟩)
theorem Rel.Avy(hr:Rel c st a w F M){id q2 t t2 ty e e2 e3:TypeId}{u2:TypeDesc}{i:TypeInfo}{z:Value}{sz k N:Nat}{rows:List (List (List Pd))}{vs vx:Value}
   (hg:get st.hp id=some (.DF e e2 sz k rows none)) (hN0:N=rows.length) (hv:DR F w M (sg st.hp) (.DI id N) vs) (hq:get st.hp q2=some (.Fv (T5 e3))) (hx:DR F w M (sg st.hp) (.ref q2 0 1 1) vx)
   (Fq:P.underlying t=some (.slice e)) (KE:P.underlying t2=some u2) (PX:∀k,u2≠ .int k) (hi:P.info? e=some i) (hz:i.zero=some z) (FJ:i.size=1) (hzs:z.cells.size=1)
   (hle:N+1<=140737488355328) (k7:(N+1)*i.bytes<=140737488355328):
   ∃v w' M',Rel c {st with hp:=Cz st.hp id (.DF e e2 sz (k+1) (rows++[[]]) none)} a w' F M'/\DR F w' M' (sg (Cz st.hp id (.DF e e2 sz (k+1) (rows++[[]]) none))) (.DI id (N+1)) v/\
     (Builtin.append_ #[t,t2] ty #[vs,vx]).run P w= .ok v w':=by
 subst hN0;have hn:Ie F w (M id) e e2 sz rows none:=hr.heap.obj id _ hg;obtain ⟨hqF,hqc,adn,hqh⟩:¬F (M q2).DQ/\(M q2).cap=1/\∃ad,w.heap[(M q2).DQ]?=some (.cells #[.slice ad 0 0] e3 (0,0)):=hr.heap.obj q2 _ hq;have j4:q2≠id:=λ e=>by rw[e,hg] at hq;cases hq
 obtain ⟨cap,ad,rfl,h5,h6,h7,h8⟩:∃cap ad,vs= .slice ad rows.length cap/\0+rows.length<=rows.length/\rows.length<=cap/\0+cap=(M id).cap/\(cap=0∨ad=some ⟨(M id).DQ,0*1,none⟩):=by
   cases hv with
   | DI _ _ sz1 m1 k1 _ hs hN Us h2=>
     rw[CY hg] at hs;simp only[AO.sg,Al,Sg.DF.injEq] at hs;obtain ⟨rfl,rfl,rfl⟩:=hs;obtain ⟨ad,cap,h3,h4⟩:=h2 rfl;exact ⟨cap,ad,h3,h4⟩
 simp only[Bf] at h7;subst h7;have ME:vx= .slice (some ⟨(M q2).DQ,0,none⟩) 1 1:=by
   cases hx with
   | ref _ _ _ _ sz1 n1 _ hs hN Us h2=>
     rw[CY hq] at hs;simp only[AO.sg,T5,Al,Sg.arr.injEq] at hs;obtain ⟨rfl,rfl⟩:=hs;obtain ⟨ad2,cap2,rfl,g1,g2,g3,g4⟩:=h2 rfl;rw[Bf,hqc] at g3;subst g3;rcases g4 with g4 | g4
     . cases g4
     . rw[g4]
 subst ME;have Adt:∀w1:World,(Builtin.lenOf (.slice (some ⟨(M q2).DQ,0,none⟩) 1 1)).run P w1= .ok 1 w1:=λ w1=>by simp[Builtin.lenOf]
 have hf1:∀w1:World,w1.heap=w.heap->(Builtin.firstCells i.size 1 (.slice (some ⟨(M q2).DQ,0,none⟩) 1 1)).run P w1= .ok #[.slice adn 0 0] w1:=λ w1 h1=>by
   have:=run_firstCells_some (P:=P) w1 i.size 1 ⟨(M q2).DQ,0,none⟩ 1 1 [.slice adn 0 0] (by simp[FJ]) (λ j v hj=>by
     cases j with
     | zero=>
       simp only[AK,Al] at hj;subst hj;rw[Addr.add_lit,cell_of_row w1 (M q2).DQ (0+0) #[.slice adn 0 0] e3 (0,0) (by rw[h1];exact hqh)];rfl
     | succ j=>simp at hj)
   simpa using this
 have Cx:∀j,get (Cz st.hp id (.DF e e2 sz (k+1) (rows++[[]]) none)) j=if j=id then some (.DF e e2 sz (k+1) (rows++[[]]) none) else get st.hp j:=CU _ _ _
 have RJ:sg (Cz st.hp id (.DF e e2 sz (k+1) (rows++[[]]) none)) id=some (.DF sz (rows.length+1) (k+1)):=by rw[C9 Cx];simp[AO.sg]
 have Hk:∀mb,C1 M (FU M id mb) (sg st.hp) (sg (Cz st.hp id (.DF e e2 sz (k+1) (rows++[[]]) none))):=by
   intro mb;have hM:∀j,j≠id->FU M id mb j=M j:=λ j hj=>by simp[FU,hj]
   refine ⟨λ j hj=>?_,λ j s2 n2 hj=>?_,λ j s2 n2 k2 hj=>?_⟩
   . have e2:j≠id:=λ e2=>by rw[e2,CY hg] at hj;simp[AO.sg] at hj
     rw[C9 Cx,if_neg e2,hM j e2];exact ⟨hj,rfl⟩
   . have e2:j≠id:=λ e2=>by rw[e2,CY hg] at hj;simp[AO.sg] at hj
     rw[C9 Cx,if_neg e2,hM j e2];exact ⟨n2,hj,Ai _,λ _=>rfl⟩
   . by_cases e2:j=id
     . subst e2;rw[CY hg] at hj;simp only[AO.sg,Al,Sg.DF.injEq] at hj;obtain ⟨rfl,rfl,rfl⟩:=hj;exact ⟨_,_,RJ,by omega,by omega,λ h=>by omega,λ h=>by omega⟩
     . rw[C9 Cx,if_neg e2,hM j e2];exact ⟨n2,k2,hj,Ai _,Ai _,λ _=>⟨rfl,rfl⟩,λ _=>rfl⟩
 have IE:∀{j:Nat} {b:Nat×Nat},((M id).xs++[(0,0)])[j]?=some b->(M id).xs[j]?=some b∨(j=rows.length/\b=(0,0)):=by
   intro j b h;rw[AL] at h;split at h
   . exact .inl h
   . rename_i h1;rw[hn.xl] at h1 h;cases hj:j - rows.length with
     | zero=>
       rw[hj] at h;simp only[AK,Al] at h;exact .inr ⟨by omega,h.symm⟩
     | succ m=>rw[hj] at h;simp at h
 have hrs:∀{j:Nat} {r:List (List Pd)},(rows++[[]])[j]?=some r->(rows[j]?=some r/\j<rows.length)∨(j=rows.length/\r=[]):=by
   intro j r h;rw[AL] at h;split at h
   . rename_i h1;exact .inl ⟨h,h1⟩
   . rename_i h1;cases hj:j - rows.length with
     | zero=>
       rw[hj] at h;simp only[AK,Al] at h;exact .inr ⟨by omega,h.symm⟩
     | succ m=>rw[hj] at h;simp at h
 have mk:∀{w':World} {b cp:Nat},(∀b,F b->w'.heap[b]?=w.heap[b]?)->(∀(j:Nat) bc,(M id).xs[j]?=some bc->bc.2≠0->w'.heap[bc.1]?=w.heap[bc.1]?)->(∀(j:Nat) bc,(M id).xs[j]?=some bc->bc.2≠0->cp≠0->bc.1≠b)->
     rows.length+1<=cp->cp<=maxLen->¬F b->(∃row,w'.heap[b]?=some (.cells row e (0,0))/\row.size=cp/\(∀(j:Nat) r bc,rows[j]?=some r->(M id).xs[j]?=some bc->∃a,row.getD j undef= .slice a r.length bc.2/\(bc.2=0∨a=some ⟨bc.1,0,none⟩))/\∃a,row.getD rows.length undef= .slice a 0 0)->
     Ie F w' ⟨b,cp,(M id).xs++[(0,0)]⟩ e e2 sz (rows++[[]]) none:=by
   intro w' b cp hF hxo hxb hl hm Mn ⟨row,g1,g2,g3,g4⟩;refine ⟨hn.pos,by simp[hn.xl],by simpa using hl,hm,λ _=>⟨Mn,row,g1,g2,λ j r bc h1 h2 _=>?_⟩,λ j r bc h1 h2 _=>?_,λ j bc h1 _=>(by cases h1),λ j1 j2 b1 b2 h1 h2 h3 h4 h5=>?_,λ j bi h1 h2 h3=>?_⟩
   . rcases hrs h1 with ⟨h3,h4⟩ | ⟨rfl,rfl⟩
     . rcases IE h2 with h5 | ⟨rfl,_⟩
       . exact g3 j r bc h3 h5
       . omega
     . rcases IE h2 with h5 | ⟨_,rfl⟩
       . have:=(Ao.1 h5).1;rw[hn.xl] at this;omega
       . obtain ⟨a,h6⟩:=g4;exact ⟨a,h6,.inl rfl⟩
   . rcases hrs h1 with ⟨h3,h4⟩ | ⟨rfl,rfl⟩
     . rcases IE h2 with h5 | ⟨rfl,_⟩
       . exact (hn.rows j r bc h3 h5 (by simp)).CW hF (λ _ h=>h) (λ hc=>⟨hxo j bc h5 hc,hn.JL (.inr ⟨j,bc,h5,hc,rfl⟩)⟩)
       . omega
     . rcases IE h2 with h5 | ⟨_,rfl⟩
       . have:=(Ao.1 h5).1;rw[hn.xl] at this;omega
       . exact ⟨hn.pos,by simp,by simp,by simp,λ h=>(h rfl).elim⟩
   . rcases IE h1 with h6 | ⟨_,rfl⟩
     . rcases IE h2 with h7 | ⟨_,rfl⟩
       . exact hn.dis j1 j2 b1 b2 h6 h7 h3 h4 h5
       . exact (h5 rfl).elim
     . exact (h4 rfl).elim
   . rcases IE h1 with h6 | ⟨_,rfl⟩
     . exact hxb j bi h6 h2 h3
     . exact (h2 rfl).elim
 have Oa:∀{w':World} {b cp:Nat} {ad:Option Addr},rows.length+1<=cp->ad=some ⟨b,0,none⟩->DR F w' (FU M id ⟨b,cp,(M id).xs++[(0,0)]⟩) (sg (Cz st.hp id (.DF e e2 sz (k+1) (rows++[[]]) none))) (.DI id (rows.length+1)) (.slice ad (rows.length+1) cp):=by
   intro w' b cp ad h1 h2;exact .DI id _ sz (rows.length+1) (k+1) _ RJ (Ai _) ⟨_,_,rfl,.inr ⟨_,h2⟩⟩ (λ _=>⟨ad,cp,rfl,by omega,h1,by simp[FU],.inr (by simp[FU,h2])⟩)
 have Kv:∀mb,FU M id mb id=mb:=λ mb=>by simp[FU]
 have OR:∀mb j,j≠id->FU M id mb j=M j:=λ mb j hj=>by simp[FU,hj]
 have Atn:∀{b' cp b:Nat},DU ⟨b',cp,(M id).xs++[(0,0)]⟩ b->(cp≠0/\b=b')∨DU (M id) b:=by
   intro b' cp b h;rcases h with ⟨h1,h2⟩ | ⟨j,bc,h1,h2,h3⟩
   . exact .inl ⟨h1,h2⟩
   . rcases IE h1 with h4 | ⟨_,rfl⟩
     . exact .inr (.inr ⟨j,bc,h4,h2,h3⟩)
     . exact (h2 rfl).elim
 by_cases I3:rows.length+1<=(M id).cap
 . have S5:(M id).cap≠0:=by omega
   obtain rfl:=h8.resolve_left S5;obtain ⟨Mn,row,Dq,GH,De⟩:=hn.outer S5;have Mm:=run_storeCells_at P (M id).DQ (rows.length*i.size) e [.slice adn 0 0] 0 row w Dq (by simp[FJ];omega) (by intro v hv;simp at hv;subst hv;rfl);simp only[Bu] at Mm;have DE:=GS (P:=P) (w:=w) (ty:=ty) Fq KE PX hi (base:=some ⟨(M id).DQ,0*1,none⟩) (n:=rows.length) (Adt w) (hf1 w rfl) I3
     (λ ad' e3=>by cases e3;rw[Addr.add_lit];simp only[Nat.zero_mul,Bf];exact Mm) (λ e3=>by cases e3)
   simp only[FJ,Nat.mul_one,An,Ax,Bf] at DE Mm;have IN:∀p,((row.toList.take rows.length++[Value.slice adn 0 0]++row.toList.drop (rows.length+1)).toArray).getD p undef=if p=rows.length then .slice adn 0 0 else row.getD p undef:=by
     intro p;have e1:row.toList.take rows.length++[Value.slice adn 0 0]++row.toList.drop (rows.length+1)=row.toList.set rows.length (.slice adn 0 0):=by
       rw[List.set_eq_take_append_cons_drop,if_pos (by simp;omega)];simp
     rw[e1];simp only[At,List.getElem?_toArray,BR];by_cases e2:rows.length=p
     . subst e2;have h9:rows.length<row.size:=by omega
       simp[h9]
     . rw[if_neg e2,if_neg (Bc e2)];simp
   have Bbf:((row.toList.take rows.length++[Value.slice adn 0 0]++row.toList.drop (rows.length+1)).toArray).size=(M id).cap:=by
     simp;omega
   refine ⟨_,_,FU M id ⟨(M id).DQ,(M id).cap,(M id).xs++[(0,0)]⟩,hr.change (w':=w.setRow (M id).DQ (row.toList.take rows.length++[Value.slice adn 0 0]++row.toList.drop (rows.length+1)).toArray) Cx (OR _) (Hk _) rfl rfl rfl (by simp)
     (λ b hb Dt=>setRow_other w _ b _ (λ e=>Dt _ hg (.inl ⟨S5,e⟩))) ?_ (λ b hb=> .inl ⟨_,hg,?_⟩),Oa I3 rfl,DE⟩
   . rw[Kv];exact mk (λ b hb=>setRow_other w _ b _ (λ e=>Mn (e ▸ hb))) (λ j bc h1 h2=>setRow_other w _ _ _ (hn.out j bc h1 h2 S5)) (λ j bc h1 h2 _=>hn.out j bc h1 h2 S5) I3 hn.max Mn
       ⟨_,setRow_heap w _ _ _ e (0,0) Dq,Bbf,λ j r bc h1 h2=>by
         obtain ⟨a,h3,h4⟩:=De j r bc h1 h2 (by simp);have:=(Ao.1 h1).1;exact ⟨a,by rw[IN,if_neg (by omega)];exact h3,h4⟩,adn,by rw[IN,if_pos rfl]⟩
   . rw[Kv] at hb;rcases Atn hb with ⟨_,h1⟩ | h1
     . exact .inl ⟨S5,h1⟩
     . exact h1
 ·
   obtain ⟨HK,ho1,VB,ho3⟩:∃HK:Array Value,HK.size=rows.length/\(Builtin.firstCells i.size rows.length (.slice ad rows.length (M id).cap)).run P w.drew= .ok HK w.drew/\
       ∀(j:Nat) r bc,rows[j]?=some r->(M id).xs[j]?=some bc->∃a,HK.getD j undef= .slice a r.length bc.2/\(bc.2=0∨a=some ⟨bc.1,0,none⟩):=by
     by_cases h0:(M id).cap=0
     . have h1:rows=[]:=AY (by omega);subst h1;refine ⟨#[],rfl,?_,λ j r bc h=>by simp at h⟩;cases ad<;>simp[Builtin.firstCells,loadCells,loadCellsFrom]
     . obtain rfl:=h8.resolve_left h0;obtain ⟨Mn,row,Dq,GH,De⟩:=hn.outer h0;have hl:(row.toList.take rows.length).length=rows.length:=by simp;omega
       refine ⟨(row.toList.take rows.length).toArray,by simpa using hl,?_,λ j r bc h1 h2=>?_⟩
       . refine run_firstCells_some (P:=P) w.drew i.size rows.length ⟨(M id).DQ,0*1,none⟩ rows.length (M id).cap _ (by rw[hl,FJ];omega) (λ j v hj=>?_);rw[Addr.add_lit,cell_of_row w.drew (M id).DQ (0*1+j) row e (0,0) Dq];rw[AI] at hj;split at hj
         . simpa using hj
         . cases hj
       . obtain ⟨a,h3,h4⟩:=De j r bc h1 h2 (by simp);have:=(Ao.1 h1).1;refine ⟨a,?_,h4⟩;rw[<-h3];simp[At,AI,this]
   have DE:=Gl (P:=P) (w:=w) (ty:=ty) Fq KE PX hi hz (base:=ad) (n:=rows.length) (cap:=(M id).cap) (Adt w) (hf1 w.drew rfl) VB (by omega) hle k7;have VC:=grownCap_ge w (rows.length+1) (M id).cap e;have k4:=grownCap_le_maxLen w (rows.length+1) (M id).cap e (by unfold maxLen;omega);generalize hcp:grownCap w (rows.length+1) (M id).cap e=cp at DE VC k4;have Nl:=heap_alloc_new w.drew (.cells (HK++#[Value.slice adn 0 0]++Builtin.zeroCells z.cells (cp - (rows.length+1))) e);have hold:∀b,b<w.heap.size->(w.drew.alloc (.cells (HK++#[Value.slice adn 0 0]++Builtin.zeroCells z.cells (cp - (rows.length+1))) e)).heap[b]?=w.heap[b]?:=λ b hb=>alloc_old w.drew _ b hb;refine ⟨_,_,FU M id ⟨w.heap.size,cp,(M id).xs++[(0,0)]⟩,hr.change (w':=w.drew.alloc (.cells (HK++#[Value.slice adn 0 0]++Builtin.zeroCells z.cells (cp - (rows.length+1))) e)) Cx (OR _) (Hk _) rfl rfl rfl (by simp)
     (λ b hb _=>hold b hb) ?_ (λ b hb=>?_),Oa VC rfl,DE⟩
   . rw[Kv];refine mk (λ b hb=>hold b (hr.CW.Fl b hb)) (λ j bc h1 h2=>hold _ (hn.lt (.inr ⟨j,bc,h1,h2,rfl⟩))) (λ j bc h1 h2 _=>Nat.ne_of_lt (hn.lt (.inr ⟨j,bc,h1,h2,rfl⟩))) VC k4 (λ hF=>Nat.lt_irrefl _ (hr.CW.Fl _ hF))
       ⟨_,Nl,by simp[Gj,hzs,ho1];omega,λ j r bc h1 h2=>?_,adn,?_⟩
     . obtain ⟨a,h3,h4⟩:=ho3 j r bc h1 h2;have:=(Ao.1 h1).1;refine ⟨a,?_,h4⟩;rw[<-h3];simp only[At];rw[Array.getElem?_append_left (by simp;omega),Array.getElem?_append_left (by omega)]
     . simp only[At];rw[Array.getElem?_append_left (by simp;omega),Array.getElem?_append_right (by omega),ho1];simp
   . rw[Kv] at hb;rcases Atn hb with ⟨_,h1⟩ | h1
     . exact .inr (by rw[h1];exact Ai _)
     . exact .inl ⟨_,hg,h1⟩
end
end Go.Am
namespace Go.Am
open Go
section
variable {P:Program} {ops rest:List Oper} {k:Kt} {st:St} {o:Oper}
theorem Awo(hc:Dl o.op=none)(h:mOp P st (o.dst.getD 0) o.op λ d h'=>O P true ops rest k (({st with hp:=h'}:St).put o.dst d)):Af P true ops rest k o st .fail:=by
 refine Ig λ ct a w F M Q hr=>?_;obtain ⟨d,h',v,w',F',M',hk,J5,hF,hd,DE⟩:=GB hr h;unfold Oper.wp;rcases DE with DE | ⟨rfl,DE⟩
 . rw[DE];exact ⟨_,F',M',hk,J5.put hd o.dst⟩
 . rw[DE];exact ⟨_,F',M',hk,J5.put hd o.dst⟩
theorem Aaj{t e e2:TypeId}{x:Operand}{s1 b1 b2:Nat}{z1:D}(ho:o.op= .buildSlice t 1 #[(0,x)])(ht:CJ P t=some ⟨s1,b1,.slice e,z1⟩)(hte:CJ P e=some ⟨1,b2,.slice e2,.cl []⟩)
   (hx:ev st x= .cl []) (hq:get st.hp (o.dst.getD 0)=none)
   (h:O P true ops rest k (({st with hp:=(o.dst.getD 0,.arr e 1 [[.sl []]])::st.hp}:St).put o.dst (.ref (o.dst.getD 0) 0 1 1))):Af P true ops rest k o st .fail:=by
 refine Awo (by rw[ho];rfl) ?_;rw[ho];simp only[mOp,ht,hte,AH,BE,hx];exact ⟨by omega,by omega,by simpa [GZ,D.cells,D.one,HP,KW,chunk,hq] using h⟩
theorem range_one:Array.range 1=#[0]:=rfl
theorem Aqe{t e e2:TypeId}{x:Operand}{s1 b1 b2:Nat}{z1:D}(ho:o.op= .buildSlice t 1 #[(0,x)])(ht:CJ P t=some ⟨s1,b1,.slice e,z1⟩)(hte:CJ P e=some ⟨1,b2,.slice e2,.cl []⟩)
   (hx:ev st x= .cl []) (hq:get st.hp (o.dst.getD 0)=none)
   (h:O P true ops rest k (({st with hp:=(o.dst.getD 0,.Fv (T5 e))::st.hp}:St).put o.dst (.ref (o.dst.getD 0) 0 1 1))):Af P true ops rest k o st .fail:=by
 refine Ig λ ct a w F M Q hr=>?_;obtain ⟨i1,u1,z1',Ii,Fq,hz1,e1⟩:=Ch ht;simp only[TI.mk.injEq] at e1;obtain rfl:=C4 e1.2.2.1.symm;obtain ⟨i,u,z,hi,hu,hz,e3⟩:=Ch hte;simp only[TI.mk.injEq] at e3;obtain ⟨e4,e5,e6,e7⟩:=e3;have hzv:=Tl e7.symm;subst hzv;have Sz:=Co hr x;rw[hx] at Sz;generalize ME:a.eval x=vx at Sz;cases Sz with
 | cl _ ad _ _=>
   obtain ⟨h2,h3⟩:=hr.Ara (q:=o.dst.getD 0) (e:=e) (ad:=ad) hq;unfold Oper.wp;have hex:(execOp a.eval o).run P w= .ok (.value (.slice (some ⟨w.heap.size,0,none⟩) 1 1)) (w.alloc (.cells #[.slice ad 0 0] e)):=by
     simp[execOp,ho,Instr.buildSlice,run_underlying Fq,Result.andThen,Dw hi,<-e4,JD hi hz,Value.cells,Instr.fill,ME,newRow,range_one,Nat.mod_one]
   rw[hex];exact ⟨_,F,_,h,h2.put h3 o.dst⟩
theorem Ajf{c:Call}{x y:Operand}{id q2 t t2 e e2 e3 e4:TypeId}{s1 b1 b2 sz kk N s2 b4:Nat}{z1 z2:D}{rows:List (List (List Pd))}(ho:o.op= .call c)(hc:c.callee= .builtin .append)(ha:c.args=#[x,y])(hta:c.argTypes=#[t,t2])
   (ht:CJ P t=some ⟨s1,b1,.slice e,z1⟩) (ht2:CJ P t2=some ⟨s2,b4,.slice e4,z2⟩) (hte:CJ P e=some ⟨1,b2,.slice e2,.cl []⟩)
   (hx:ev st x= .DI id N) (hg:get st.hp id=some (.DF e e2 sz kk rows none)) (hN:N=rows.length) (hy:ev st y= .ref q2 0 1 1) (hq:get st.hp q2=some (.Fv (T5 e3)))
   (hle:N+1<=140737488355328) (k7:(N+1)*b2<=140737488355328)
   (h:O P true ops rest k (({st with hp:=Cz st.hp id (.DF e e2 sz (kk+1) (rows++[[]]) none)}:St).put o.dst (.DI id (N+1)))):Af P true ops rest k o st .fail:=by
 refine Ig λ ct a w F M Q hr=>?_;obtain ⟨i1,u1,z1',Ii,Fq,hz1,e1⟩:=Ch ht;simp only[TI.mk.injEq] at e1;obtain rfl:=C4 e1.2.2.1.symm;obtain ⟨i2,u2,z2',Ea,KE,hz2,e21⟩:=Ch ht2;simp only[TI.mk.injEq] at e21;obtain rfl:=C4 e21.2.2.1.symm;obtain ⟨i,u,z,hi,hu,hz,e31⟩:=Ch hte;simp only[TI.mk.injEq] at e31;obtain ⟨e41,e5,e6,e7⟩:=e31;have hzv:=Tl e7.symm;subst hzv;have Sz:=Co hr x;rw[hx] at Sz;have hy':=Co hr y;rw[hy] at hy';obtain ⟨v,w',M',h1,h2,h3⟩:=hr.Avy (P:=P) (ty:=o.type) hg hN Sz hq hy' Fq KE (λ k h=>by cases h) hi hz e41.symm rfl hle (by rw[<-e5];exact k7);unfold Oper.wp;have hex:(execOp a.eval o).run P w= .ok (.value v) w':=by
   simp[execOp,ho,hc,ha,hta,resolve,invoke,builtin,h3,Result.andThen]
 rw[hex];exact ⟨_,F,M',h,h1.put h2 o.dst⟩
end
theorem Wk.Ar9{st:St}{id j q sz:Nat}{cs:List D}{ty:TypeId}(e e2:TypeId)(hb:get st.hp id=some (.box cs ty))(hj:cs[j]?=some (.cl []))(hq:get st.hp q=none)(hs:0<sz):
   Wk st ⟨st.env,(q,.DF e e2 sz 0 [] none)::Cz st.hp id (.box (cs.set j (.DI q 0)) ty),st.n⟩:=by
 intro c a w F M hr;obtain ⟨HJ,h1⟩:=hr.ZO (e:=e) (e2:=e2) hq hs;have Dt:id≠q:=λ h=>by subst h;rw[hq] at hb;cases hb
 have SD:get ((q,AO.DF e e2 sz 0 [] none)::st.hp) id=some (.box cs ty):=by rw[Cw,if_neg (Bc Dt)];exact hb
 have Cx:∀i,get ((q,AO.DF e e2 sz 0 [] none)::Cz st.hp id (.box (cs.set j (.DI q 0)) ty)) i=if i=id then some (.box (cs.set j (.DI q 0)) ty) else get ((q,AO.DF e e2 sz 0 [] none)::st.hp) i:=by
   intro i;simp only[Cw,CU];by_cases e1:i=id
   . subst e1;simp[Bc Dt]
   . by_cases e2:q=i
     . subst e2;simp[e1]
     . simp[e1,e2]
 have G7:=DJ Cx SD rfl;have Amd:=HJ.heap.obj id _ SD;obtain ⟨Mn,row,t,Dq,FJ,De⟩:=Amd;refine ⟨F,FU M q ⟨0,0,[]⟩,?_⟩;refine HJ.change (st:=⟨st.env,(q,AO.DF e e2 sz 0 [] none)::st.hp,st.n⟩) Cx (λ _ _=>rfl) (by rw[G7];exact C1.refl _ _) rfl rfl rfl (Ai _) (λ _ _ _=>rfl) ?_ (λ b hb=> .inl ⟨_,SD,hb⟩);refine ⟨Mn,row,t,Dq,by simpa using FJ,λ i d hd=>?_,λ h5 h6 i hi=>?_⟩;rotate_left
 . refine De.2 h5 ?_ i ?_
   . obtain ⟨x,hx,hn⟩:=AV.1 h6;rcases List.mem_or_eq_of_mem_set hx with h7 | rfl
     . exact AV.2 ⟨x,h7,hn⟩
     . cases hn
   . by_cases e1:i=j
     . subst e1;rw[BA (Ao.1 hj).1] at hi;cases hi
     . rwa[List.getElem?_set_ne (Bc e1)] at hi
 rw[G7];by_cases e1:i=j
 . subst e1;have Cv:=(Ao.1 hj).1;rw[BA Cv] at hd;cases hd;have h2:=De.1 i _ hj;refine ⟨?_,h2.2⟩;have h3:=h2.1;generalize row.getD i undef=v at h3;cases h3 with | cl _ ad _ _=>exact h1 ad
 . rw[List.getElem?_set_ne (Bc e1)] at hd;exact De.1 i d hd
end Go.Am
namespace Go.Am
open Go
theorem B2.seal{P:Program}{f:FuncId}{args:List D}{h:Hp}{R R':Hp->D->Prop}(hc:B2 P f args h R)(hR:∀h' r,R h' r->Fu h' r λ d h2=>P9 (h.map (·.1)) h2 d R'):B2 P f args h R':=by
 intro vs w F M hHR hFl hsb hd;refine (hc vs w F M hHR hFl hsb hd).mono ?_;rintro e w' ⟨v,h',r,F',M',rfl,hr,V6,S4,hk⟩;have Av6:Rel ⟨w,F,E8 M h,M,sg h⟩ ⟨[],h',0⟩ ⟨#[],[]⟩ w' F' M':=⟨λ t d ht=>by simp[get] at ht,rfl,rfl,V6,hk⟩;obtain ⟨d,h2,F2,IF,Axs,_,_,I4⟩:=PN r Av6 S4 (hR h' r hr);obtain ⟨h3,r2,M2,h4,h5,h6,h7⟩:=Pb Axs rfl (λ _=>Iff.rfl) I4 IF;exact ⟨v,h3,r2,F2,M2,rfl,h4,h5,h6,h7⟩
end Go.Am
end
section
set_option linter.unusedVariables false
set_option linter.unusedSimpArgs false
namespace Go.Am
open Go
def FL(sz n:Nat):Ass where
 sg:= .arr sz n
 holds:=λ _ _ _=>True
 Gz:=λ _ _=>False
 CW:=λ _ _ _ _=>trivial
 JL:=λ _ h=>h.elim
 lt:=λ _ h=>h.elim
 Avq:=λ _ _ _=>trivial
section
variable {c:Ctx} {st:St} {a:Act} {w:World} {F:Nat->Prop} {M:Nat->Mb}
theorem Rel.move(hr:Rel c st a w F M){q q' k sz:Nat}{e:TypeId}{es:List (List Pd)}(hq:get st.hp q=some (.arr e sz es))(hk:k<=es.length)(Y2:get st.hp q'=none):
   Rel c ⟨st.env,(q',.arr e sz (es.take k))::Cz st.hp q (.Fv (FL sz (es.length+1))),st.n⟩ a w F (FU M q' (M q))/\
     ∀v,DR F w M (sg st.hp) (.ref q 0 k es.length) v->DR F w (FU M q' (M q)) (sg ((q',.arr e sz (es.take k))::Cz st.hp q (.Fv (FL sz (es.length+1))))) (.ref q' 0 k k) v:=by
 have Dt:q'≠q:=λ h=>by subst h;rw[hq] at Y2;cases Y2
 have Cx:∀i,get ((q',AO.arr e sz (es.take k))::Cz st.hp q (.Fv (FL sz (es.length+1)))) i=if i=q' then some (.arr e sz (es.take k)) else if i=q then some (.Fv (FL sz (es.length+1))) else get st.hp i:=by
   intro i;simp only[Cw,CU];by_cases e1:q'=i
   . subst e1;simp
   . rw[if_neg e1,if_neg (Bc e1)]
 have hMo:∀i,i≠q'->FU M q' (M q) i=M i:=λ i hi=>by simp[FU,hi]
 have J9:FU M q' (M q) q'=M q:=by simp[FU]
 have hlen:(es.take k).length=k:=by simp;omega
 have Av3:∀i,i≠q'->i≠q->sg ((q',AO.arr e sz (es.take k))::Cz st.hp q (.Fv (FL sz (es.length+1)))) i=sg st.hp i:=λ i h1 h2=>by
   simp[sg,Cx,h1,h2]
 have VY:sg st.hp q=some (.arr sz es.length):=by simp[sg,hq,AO.sg]
 have Axp:sg ((q',AO.arr e sz (es.take k))::Cz st.hp q (.Fv (FL sz (es.length+1)))) q=some (.arr sz (es.length+1)):=by
   unfold sg;rw[Cx,if_neg (Bc Dt),if_pos rfl];rfl
 have RI:sg ((q',AO.arr e sz (es.take k))::Cz st.hp q (.Fv (FL sz (es.length+1)))) q'=some (.arr sz k):=by
   unfold sg;rw[Cx,if_pos rfl];simp[AO.sg,hk]
 have Av5:sg st.hp q'=none:=by simp[sg,Y2]
 have Hl:C1 M (FU M q' (M q)) (sg st.hp) (sg ((q',AO.arr e sz (es.take k))::Cz st.hp q (.Fv (FL sz (es.length+1))))):=by
   refine ⟨λ i hi=>?_,λ i s n hi=>?_,λ i s n kk hi=>?_⟩
   . have h1:i≠q':=λ h=>by rw[h,Av5] at hi;cases hi
     have h2:i≠q:=λ h=>by rw[h,VY] at hi;cases hi
     rw[Av3 i h1 h2,hMo i h1];exact ⟨hi,rfl⟩
   . have h1:i≠q':=λ h=>by rw[h,Av5] at hi;cases hi
     by_cases h2:i=q
     . subst h2;rw[VY] at hi;cases hi;exact ⟨es.length+1,Axp,by omega,λ h=>by omega⟩
     . rw[Av3 i h1 h2,hMo i h1];exact ⟨n,hi,Ai _,λ _=>rfl⟩
   . have h1:i≠q':=λ h=>by rw[h,Av5] at hi;cases hi
     have h2:i≠q:=λ h=>by rw[h,VY] at hi;cases hi
     rw[Av3 i h1 h2,hMo i h1];exact ⟨n,kk,hi,Ai _,Ai _,λ _=>⟨rfl,rfl⟩,λ _=>rfl⟩
 have hF:∀b,F b->w.heap[b]?=w.heap[b]?:=λ _ _=>rfl;have Am9:∀i o b,get ((q',AO.arr e sz (es.take k))::Cz st.hp q (.Fv (FL sz (es.length+1)))) i=some o->o.Gz (FU M q' (M q) i) b->
     ∃i0 o0,get st.hp i0=some o0/\o0.Gz (M i0) b/\(i=q'->i0=q)/\(i≠q'->i0=i/\i≠q):=by
   intro i o b hi ho;rw[Cx] at hi;by_cases h1:i=q'
   . subst h1;rw[if_pos rfl] at hi;cases hi;rw[J9] at ho;exact ⟨q,_,hq,ho,λ _=>rfl,λ h=>(h rfl).elim⟩
   . rw[if_neg h1] at hi;by_cases h2:i=q
     . subst h2;rw[if_pos rfl] at hi;cases hi;exact ho.elim
     . rw[if_neg h2] at hi;rw[hMo i h1] at ho;exact ⟨i,o,hi,ho,λ h=>(h1 h).elim,λ _=>⟨rfl,h2⟩⟩
 refine ⟨⟨λ t d ht=>(hr.env t d ht).CW hF (λ _ h=>h) Hl,hr.size,hr.defers,⟨λ i o hi=>?_,λ i o i' o' b hi UB ho N7=>?_⟩,?_⟩,λ v hv=>?_⟩
 . rw[Cx] at hi;by_cases h1:i=q'
   . subst h1;rw[if_pos rfl] at hi;cases hi;rw[J9];obtain ⟨g1,g2,g3,g4,g5⟩:=hr.heap.obj q _ hq;refine ⟨g1,by rw[hlen];omega,g3,λ j x hx=>?_,λ hc=>?_⟩
     . rw[AI] at hx;split at hx
       . exact g4 j x hx
       . cases hx
     . obtain ⟨f1,row,f2,f3,f4⟩:=g5 hc;refine ⟨f1,row,f2,f3,λ j x l y hx hy=>?_⟩;rw[AI] at hx;split at hx
       . exact f4 j x l y hx hy
       . cases hx
   . rw[if_neg h1] at hi;by_cases h2:i=q
     . subst h2;rw[if_pos rfl] at hi;cases hi;exact trivial
     . rw[if_neg h2] at hi;rw[hMo i h1];exact (hr.heap.obj i o hi).CW hF (λ _ h=>h) Hl (λ b CT=>⟨rfl,hr.heap.JL ⟨i,o,hi,CT⟩⟩)
 . obtain ⟨j,p,h1,h2,h3,h4⟩:=Am9 i o b hi ho;obtain ⟨j',p',EN,Ij,h3',h4'⟩:=Am9 i' o' b UB N7;have hj:=hr.heap.inj j p j' p' b h1 EN h2 Ij;by_cases e1:i=q'
   . by_cases e2:i'=q'
     . rw[e1,e2]
     . have:=h4' e2;have:=h3 e1;omega
   . by_cases e2:i'=q'
     . have:=h4 e1;have:=h3' e2;omega
     . have:=h4 e1;have:=h4' e2;omega
 . have hk:=hr.CW;refine ⟨hk.os,hk.tape,hk.output,hk.size,hk.N2,hk.F0,hk.Fn,hk.Fl,?_,hk.XQ.trans Hl,hk.s0b⟩;rintro b ⟨i,o,hi,ho⟩;obtain ⟨j,p,h1,h2,_⟩:=Am9 i o b hi ho;exact hk.own _ ⟨j,p,h1,h2⟩
 . cases hv with
   | ref id off len N Sc n v hs hN hva h=>
     rw[VY] at hs;cases hs;obtain ⟨ad,cap,g1,g2,g3,g4,g5⟩:=h rfl;refine .ref q' 0 k k sz k _ RI (Ai _) hva λ _=>?_;rw[Sk,J9];exact ⟨ad,cap,g1,by omega,g3,g4,g5⟩
theorem Wk.Alh{st:St}{t q k sz:Nat}(q':Nat){e:TypeId}{es:List (List Pd)}(ht:get st.env t=some (.ref q 0 k es.length))(hq:get st.hp q=some (.arr e sz es))(hk:k<=es.length)(Y2:get st.hp q'=none):
   Wk st ⟨(t,.ref q' 0 k k)::st.env,(q',.arr e sz (es.take k))::Cz st.hp q (.Fv (FL sz (es.length+1))),st.n⟩:=by
 intro c a w F M hr;obtain ⟨h1,h2⟩:=hr.move hq hk Y2;refine ⟨F,_,⟨λ j d hj=>?_,h1.size,h1.defers,h1.heap,h1.CW⟩⟩;rw[Cw] at hj;split at hj
 . rename_i e1;subst e1;cases hj;exact h2 _ (hr.env _ _ ht)
 . exact h1.env j d hj
theorem E6{st:St}{id j q k sz:Nat}(q':Nat){cs:List D}{ty e:TypeId}{es:List (List Pd)}(hb:get st.hp id=some (.box cs ty))(hj:cs[j]?=some (.ref q 0 k es.length))(hq:get st.hp q=some (.arr e sz es))
   (hk:k<=es.length) (Y2:get st.hp q'=none):
   Wk st ⟨st.env,Cz ((q',.arr e sz (es.take k))::Cz st.hp q (.Fv (FL sz (es.length+1)))) id (.box (cs.set j (.ref q' 0 k k)) ty),st.n⟩:=by
 intro c a w F M hr;obtain ⟨HJ,h2⟩:=hr.move hq hk Y2;have Dt:id≠q:=λ h=>by subst h;rw[hq] at hb;cases hb
 have Ay2:id≠q':=λ h=>by subst h;rw[Y2] at hb;cases hb
 have SD:get ((q',AO.arr e sz (es.take k))::Cz st.hp q (.Fv (FL sz (es.length+1)))) id=some (.box cs ty):=by
   rw[Cw,if_neg (Bc Ay2),CU,if_neg Dt];exact hb
 have Cx:∀i,get (Cz ((q',AO.arr e sz (es.take k))::Cz st.hp q (.Fv (FL sz (es.length+1)))) id (.box (cs.set j (.ref q' 0 k k)) ty)) i=
     if i=id then some (.box (cs.set j (.ref q' 0 k k)) ty) else get ((q',AO.arr e sz (es.take k))::Cz st.hp q (.Fv (FL sz (es.length+1)))) i:=λ i=>by rw[CU]
 have G7:=DJ Cx SD rfl;have hold:=(hr.heap.obj id _ hb);obtain ⟨Mn,row,t,Dq,FJ,De⟩:=HJ.heap.obj id _ SD;obtain ⟨_,Ban,t0,Atk,_,Adx⟩:=hold;have Kv:FU M q' (M q) id=M id:=by simp[FU,Ay2]
 rw[Kv] at Mn Dq;rw[Atk] at Dq;simp only[Al,Obj.cells.injEq] at Dq;obtain ⟨rfl,hty,_⟩:=Dq;refine ⟨F,FU M q' (M q),?_⟩;refine HJ.change (st:=⟨st.env,(q',AO.arr e sz (es.take k))::Cz st.hp q (.Fv (FL sz (es.length+1))),st.n⟩) Cx (λ _ _=>rfl) (by rw[G7];exact C1.refl _ _) rfl rfl rfl (Ai _) (λ _ _ _=>rfl) ?_ (λ b hb=> .inl ⟨_,SD,hb⟩);rw[Kv];refine ⟨Mn,Ban,t0,Atk,by simpa using FJ,λ i d hd=>?_,λ h5 h6 i hi=>?_⟩;rotate_left
 . refine Adx.2 h5 ?_ i ?_
   . obtain ⟨x,hx,hn⟩:=AV.1 h6;rcases List.mem_or_eq_of_mem_set hx with h7 | rfl
     . exact AV.2 ⟨x,h7,hn⟩
     . cases hn
   . by_cases e1:i=j
     . subst e1;rw[BA (Ao.1 hj).1] at hi;cases hi
     . rwa[List.getElem?_set_ne (Bc e1)] at hi
 rw[G7];by_cases e1:i=j
 . subst e1;have Cv:=(Ao.1 hj).1;rw[BA Cv] at hd;cases hd;have h3:=Adx.1 i _ hj;exact ⟨h2 _ h3.1,h3.2⟩
 . rw[List.getElem?_set_ne (Bc e1)] at hd;exact De.1 i d hd
end
end Go.Am
namespace Go.Am
open Go
section
variable {P:Program} {c:Ctx} {st:St} {a:Act} {w:World} {F:Nat->Prop} {M:Nat->Mb}
def Ae8(P:Program)(h:Hp)(q:Nat)(t t2:TypeId)(id off len N:Nat)(x:D)(k:D->Hp->Prop):Prop:=
 match CJ P t,CJ P t2 with
 | some ⟨_,_,.slice e,_⟩,some ti2=>(match ti2.k with | .slice _=>True | .string=>True | _=>False)/\match CJ P e with
   | some ti=>LA h x λ ys=>(∀y∈ys,y.length=ti.size)/\0<ti.size/\ti.zero.cells.length=ti.size/\ys≠[]/\match get h id with
     | some (.arr e' sz es)=>get h q=none/\off+len=es.length/\N=es.length/\e'=e/\sz=ti.size/\(len+ys.length)*ti.bytes<=140737488355328/\len+ys.length<=140737488355328/\
         k (.ref id off (len+ys.length) (es++ys).length) (Cz h id (.arr e sz (es++ys)))/\
         k (.ref q 0 (es.drop off++ys).length (es.drop off++ys).length) ((q,.arr e sz (es.drop off++ys))::h)
     | _=>False
   | none=>False
 | _,_=>False
theorem Acu(hr:Rel c st a w F M){q t t2 ty:TypeId}{id off len N:Nat}{x:D}{vs vx:Value}(hs:DR F w M (sg st.hp) (.ref id off len N) vs)(hx:DR F w M (sg st.hp) x vx){k:D->Hp->Prop}
   (h:Ae8 P st.hp q t t2 id off len N x k):∃d h' v w' M',k d h'/\Rel c {st with hp:=h'} a w' F M'/\DR F w' M' (sg h') d v/\(Builtin.append_ #[t,t2] ty #[vs,vx]).run P w= .ok v w':=by
 unfold Ae8 at h;split at h
 case h_2=>exact h.elim
 rename_i _ _ _ _ e z0 ti2 h1 h2;obtain ⟨i1,u1,z1,Ii,Fq,hz1,e1⟩:=Ch h1;simp only[TI.mk.injEq] at e1;obtain rfl:=C4 e1.2.2.1.symm;obtain ⟨i2,u2,z2,Ea,KE,hz2,rfl⟩:=Ch h2;obtain ⟨IF,h⟩:=h;have PX:∀k,u2≠ .int k:=by rintro k rfl;simp[TK.of] at IF
 split at h
 case h_2=>exact h.elim
 rename_i ti h3;obtain ⟨i,u,z,hi,hu,hz,rfl⟩:=Ch h3;obtain ⟨ys,h',j0⟩:=O5 (P:=P) hr hx h;clear h;obtain ⟨Ox,FC,hzl,YX,h⟩:=h';simp only at FC hzl Ox;rw[GA] at hzl;obtain ⟨news,Dr⟩:=j0 i.size FC Ox;have Ow:∀(j:Nat) e,ys[j]?=some e->e.length=i.size:=λ j e he=>Ox e (AQ he);have hyl:0<ys.length:=List.length_pos_iff.2 YX;split at h
 case h_2=>exact h.elim
 rename_i e' sz es ho;obtain ⟨hn,Tp,rfl,rfl,rfl,k7,hle,Pn,hk3⟩:=h;simp only at k7;have hob:=hr.heap.obj id _ ho;obtain ⟨_,Pt,hcm,J8,Pv⟩:=hob;simp only at J8 Pt;cases hs with
 | ref _ _ _ _ Sb n2 _ G7 hN2 hv h2=>
   rw[CY ho] at G7;simp only[AO.sg,Al,Sg.arr.injEq] at G7;obtain ⟨rfl,rfl⟩:=G7;have Ac3:=h2 rfl;obtain ⟨ad,cap,rfl,h5,h6,h7,h8⟩:=Ac3;have hlen:(es++ys).length=es.length+ys.length:=by simp
   have DD:∀(j:Nat) x,(es++ys)[j]?=some x->x.length=i.size:=λ j x hj=>by
     rw[AL] at hj;split at hj
     . exact J8 j x hj
     . exact Ow _ x hj
   have Cx:∀j,get (Cz st.hp id (.arr e' i.size (es++ys))) j=if j=id then some (.arr e' i.size (es++ys)) else get st.hp j:=CU _ _ _
   have RJ:sg (Cz st.hp id (.arr e' i.size (es++ys))) id=some (.arr i.size (es++ys).length):=by rw[C9 Cx];simp[AO.sg]
   by_cases I3:len+ys.length<=cap
   ·
     have Hk:C1 M M (sg st.hp) (sg (Cz st.hp id (.arr e' i.size (es++ys)))):=by
       refine ⟨λ j hj=>?_,λ j s2 n2 hj=>?_,λ j s2 n2 k2 hj=>?_⟩
       . have e2:j≠id:=λ e2=>by rw[e2,CY ho] at hj;simp[AO.sg] at hj
         rw[C9 Cx,if_neg e2];exact ⟨hj,rfl⟩
       . by_cases e2:j=id
         . subst e2;rw[CY ho] at hj;simp only[AO.sg,Al,Sg.arr.injEq] at hj;obtain ⟨rfl,rfl⟩:=hj;exact ⟨_,RJ,by omega,λ _=>rfl⟩
         . rw[C9 Cx,if_neg e2];exact ⟨n2,hj,Ai _,λ _=>rfl⟩
       . have e2:j≠id:=λ e2=>by rw[e2,CY ho] at hj;simp[AO.sg] at hj
         rw[C9 Cx,if_neg e2];exact ⟨n2,k2,hj,Ai _,Ai _,λ _=>⟨rfl,rfl⟩,λ _=>rfl⟩
     have Oa:∀w',DR F w' M (sg (Cz st.hp id (.arr e' i.size (es++ys)))) (.ref id off (len+ys.length) (es++ys).length) (.slice ad (len+ys.length) cap):=λ w'=>by
       rw[hlen] at RJ ⊢;exact .ref id off _ _ i.size _ _ RJ (Ai _) ⟨_,_,_,rfl⟩ (λ _=>⟨ad,_,rfl,by omega,I3,by omega,h8⟩)
     have S5:(M id).cap≠0:=by omega
     obtain rfl:=h8.resolve_left (by omega);obtain ⟨Mn,row,Dq,GH,De⟩:=Pv S5;have Arv:es.length*i.size+ys.length*i.size<=row.size:=by rw[GH,<-A2];exact Bh _ (by omega)
     have Ks:∀v∈news,v.oneCell'=true:=λ v hv=>by
       obtain ⟨p,hp⟩:=A4.1 hv;have Cv:=(Ao.1 hp).1;have hs:=Dr.size;have hdiv:p / i.size<ys.length:=Nat.div_lt_of_lt_mul (by rw[Nat.mul_comm];omega);have hy:ys[p / i.size]?=some ys[p / i.size]:=Az hdiv;have V1:p % i.size<(ys[p / i.size]).length:=by rw[Ow _ _ hy];exact Nat.mod_lt _ FC
       have:=(Dr.data _ _ _ _ hy (Az V1)).Jc;rwa[Nat.mul_comm,Nat.div_add_mod,Av,hp] at this
     have Mm:=Ew P (M id).DQ (es.length*i.size) e' news 0 row w Dq (by have:=Dr.size;omega) Ks;simp only[Bu] at Mm;have Ava:off*i.size+len*i.size=es.length*i.size:=by rw[<-A2,Tp]
     have DE:=GS (P:=P) (w:=w) (ty:=ty) Fq KE PX hi (base:=some ⟨(M id).DQ,off*i.size,none⟩) (n:=len) (Dr.len w) (Dr.cells w rfl) I3
       (λ ad' e3=>by cases e3;rw[Addr.add_lit,Ava];exact Mm) (λ e3=>by cases e3)
     refine ⟨_,_,_,(w.setRow (M id).DQ (row.toList.take (es.length*i.size)++news++row.toList.drop (es.length*i.size+news.length)).toArray),M,Pn,hr.change (M':=M) (w':=(w.setRow (M id).DQ (row.toList.take (es.length*i.size)++news++row.toList.drop (es.length*i.size+news.length)).toArray)) Cx (λ _ _=>rfl) Hk rfl rfl rfl (by simp) (λ b hb Dt=>setRow_other w _ b _ (λ e=>Dt _ ho ⟨S5,e⟩)) ?_ (λ b hb=> .inl ⟨_,ho,hb⟩),Oa _,DE⟩;have Hl:∀{x v},PR F w x v->PR F (w.setRow (M id).DQ (row.toList.take (es.length*i.size)++news++row.toList.drop (es.length*i.size+news.length)).toArray) x v:=
       λ h=>h.CW (λ b hb=>setRow_other w _ b _ (λ e=>Mn (e ▸ hb))) (λ _ h=>h)
     have Tp:(row.toList.take (es.length*i.size)).length=es.length*i.size:=by simp;omega
     refine ⟨FC,by omega,hcm,DD,λ _=>⟨Mn,_,Dq.set ?_,?_,λ j y p x hy hx=>?_⟩⟩
     . have QE:=Dr.size;have h13:(row.toList.take (es.length*i.size)++news++row.toList.drop (es.length*i.size+news.length)).length=row.size:=by
         simp only[Aq,A8,BM,Array.length_toList];omega
       exact h13
     . have QE:=Dr.size;have h13:(row.toList.take (es.length*i.size)++news++row.toList.drop (es.length*i.size+news.length)).length=row.size:=by
         simp only[Aq,A8,BM,Array.length_toList];omega
       exact h13.trans GH
     . have:=He (F:=F) (w:=w) (rest:=row.toList.drop (es.length*i.size+news.length)) Tp Dr.size J8 Ow (λ j y p x hy hx=>by
         have h9:=De j y p x hy hx;have Cv:=II (Ao.1 hy).1 (Ai _) (show p<i.size by have:=(Ao.1 hx).1;have:=J8 j y hy;omega);rw[Av,AI,if_pos Cv];rwa[At,<-Bj] at h9) Dr.data j y p x hy hx
       have LX:=Hl this;rw[At,List.getElem?_toArray];rwa[Av] at LX
   ·
     obtain ⟨HK,holds⟩:=O4 (P:=P) hr.heap (.inl ⟨e',ho⟩) (show Sk (M id) i.size es.length off len (.slice ad len cap) from ⟨ad,cap,rfl,h5,h6,h7,h8⟩);have Am0:(es.drop off).take len=es.drop off:=by
       have:len=(es.drop off).length:=by simp;omega
       rw[this];exact Ar
     rw[Am0] at holds;have V4:(es.drop off).length=len:=by simp;omega
     have Ayg:∀(j:Nat) x,(es.drop off)[j]?=some x->x.length=i.size:=λ j x hj=>J8 _ x (by rw[AR] at hj;exact hj);have Amf:(es.drop off++ys).length=len+ys.length:=by rw[Aq,V4]
     have Bbs:len+ys.length<=140737488355328:=hle;have Bc9:(len+ys.length)*i.bytes<=140737488355328:=k7;have DE:=Gl (P:=P) (w:=w) (ty:=ty) Fq KE PX hi hz (base:=ad) (n:=len) (cap:=cap) (Dr.len w) (Dr.cells w.drew rfl)
       (by have:=holds.cells w.drew rfl;rw[V4] at this;exact this) (by omega) Bbs Bc9
     have VC:len+ys.length<=grownCap w (len+ys.length) cap e':=grownCap_ge w _ _ _;have k4:grownCap w (len+ys.length) cap e'<=maxLen:=grownCap_le_maxLen w _ _ _ (by unfold maxLen;omega);have hos:HK.length=len*i.size:=by have:=holds.size;rw[V4] at this;exact this
     obtain ⟨J5,S4⟩:=hr.T7 (q:=q) (cap:=grownCap w (len+ys.length) cap e') (sz:=i.size) (es:=es.drop off++ys) (e:=e')
       (vs:=HK.toArray++news.toArray++Builtin.zeroCells z.cells (grownCap w (len+ys.length) cap e' - (len+ys.length)))
       (w':=w.drew.alloc (.cells (HK.toArray++news.toArray++Builtin.zeroCells z.cells (grownCap w (len+ys.length) cap e' - (len+ys.length))) e'))
       hn rfl rfl rfl rfl FC (by omega) k4 (λ j x hj=>by
         rw[AL] at hj;split at hj
         . exact Ayg _ x hj
         . exact Ow _ x hj) (by
         simp only[Array.size_append,List.size_toArray,Gj,hzl,hos,Dr.size,<-Nat.add_mul]
         congr 1;omega) (λ j y p x hy hx=>by
         have:=He (rest:=(Builtin.zeroCells z.cells (grownCap w (len+ys.length) cap e' - (len+ys.length))).toList) holds.size Dr.size
           Ayg Ow holds.data Dr.data j y p x hy hx
         simpa [List.getD,Array.getD_eq_getD_getElem?,<-Array.getElem?_toList] using this)
     rw[Amf] at S4;exact ⟨_,_,_,_,_,hk3,J5,by rw[Amf];exact S4,DE⟩
theorem At4{ops rest:List Oper}{k:Kt}{o:Oper}{cc:Call}{x y:Operand}{id off len N:Nat}{t t2:TypeId}(ho:o.op= .call cc)(hc:cc.callee= .builtin .append)(ha:cc.args=#[x,y])(hta:cc.argTypes=#[t,t2])
   (hx:ev st x= .ref id off len N)
   (h:Ae8 P st.hp (o.dst.getD 0) t t2 id off len N (ev st y) λ d h'=>O P true ops rest k (({st with hp:=h'}:St).put o.dst d)):Af P true ops rest k o st .fail:=by
 refine Ig λ ct a w F M Q hr=>?_;have Sz:=Co hr x;rw[hx] at Sz;have hy':=Co hr y;obtain ⟨d,h',v,w',M',h1,h2,h3,h4⟩:=Acu (P:=P) (ty:=o.type) hr Sz hy' h;unfold Oper.wp;have hex:(execOp a.eval o).run P w= .ok (.value v) w':=by
   simp[execOp,ho,hc,ha,hta,resolve,invoke,builtin,h4,Result.andThen]
 rw[hex];exact ⟨_,F,M',h1,h2.put h3 o.dst⟩
theorem Wk.Avu{t:Nat}{es:List (List Pd)}(ht:get st.env t=some (.cz es)):Wk st ⟨(t,.p (.sl es))::st.env,st.hp,st.n⟩:=by
 intro c a w F M hr;refine ⟨F,M,⟨λ j d hj=>?_,hr.size,hr.defers,hr.heap,hr.CW⟩⟩;rw[Cw] at hj;split at hj
 . rename_i e1;subst e1;cases hj;have h2:=hr.env _ _ ht;generalize a.tmps.getD t undef=v at h2;cases h2 with | cz _ ad h=>exact .p h
 . exact hr.env j d hj
end
end Go.Am
end
