/- Texts of this proof, what it rests on, merged: part D. -/
import Derived.Lib.ConvBytes
import Derived.Lib.OthersKept
import Derived.ScopeJumps
import Derived.Laws.IdiomStrings
import Derived.Lib.LaidTab
import Derived.Lib.ItoaNum
import Derived.Sort.Grow
import Derived.Deep.Draws
import Derived.Below
import Derived.LaidSub
import Derived.Test.YtjbklifaekjilaaGreatDoorExC
section
set_option linter.unusedVariables false
set_option linter.unusedSimpArgs false
namespace Go.Am
open Go Go.ChangeShapes Go.RowKit
def wtF(p:Field->List Pd->Prop):List Field->List Pd->Prop
 | [],cs=>cs=[]
 | f::r,cs=>∃a b,cs=a++b/\p f a/\wtF p r b
def p0(P:Program):Nat->TypeId->List Pd->Prop
 | 0,_,_=>False
 | n+1,t,cs=>match P.underlying t with
   | some .bool=>∃b,cs=[.bool b]
   | some (.int k)=>∃v,cs=[.int k v]/\(Lit.int k v).wf=true
   | some .string=>∃l,cs=[.str l]
   | some (.slice e)=>∃es,cs=[.sl es]/\∀y∈es,p0 P n e y
   | some (.struct fs)=>wtF (λ f=>p0 P n f.type) fs.toList cs
   | some (.array k e)=>∃es:List (List Pd),cs=es.flatten/\es.length=k/\∀y∈es,p0 P n e y
   | _=>False
section
variable {H:Type} {enc:TypeId×Value->H} {P:Program} {w:World} {spare:Nat->Bool} {held:Bool}
theorem Yo{p:Field->List Pd->Prop}:∀(fs:List Field) (xs:List (DataW H×List MemPlace)),xs.length=fs.length->(∀(i:Nat) f x,fs[i]?=some f->xs[i]?=some x->p f (ES x.1))->wtF p fs (L8 (xs.map (·.1)))
 | [],xs,hl,_=>by
   have:xs=[]:=AY hl;subst this;rfl
 | f::r,xs,hl,h=>by
   cases xs with
   | nil=>simp at hl
   | cons x xs=>exact ⟨ES x.1,L8 (xs.map (·.1)),rfl,h 0 f x rfl rfl,Yo r xs (by simpa using hl) λ i g y hg hy=>h (i+1) g y (by simpa using hg) (by simpa using hy)⟩
theorem Ug:∀(xs:List (DataW H×List MemPlace)),L8 (xs.map (·.1))=(xs.map λ x=>ES x.1).flatten
 | []=>rfl
 | x::r=>by simp only[AH,L8,List.flatten_cons,Ug r]
theorem Apm:∀(m:Nat) (t:TypeId),Ev P m t=true->∀(fuel:Nat) (cs:List Value) (x:DataW H×List MemPlace),
   DataW.trod enc P w 0 spare held fuel t cs=some x->p0 P m t (ES x.1):=by
 intro m
 induction m with
 | zero=>intro t h;simp[Ev] at h
 | succ m ih=>
   intro t ht fuel cs x h;simp only[Ev] at ht;simp only[p0];split at ht
   . rename_i hu;obtain ⟨b,rfl,rfl⟩:=DataW.trod_bool hu h;rw[hu];exact ⟨b,rfl⟩
   . rename_i k hu;obtain ⟨n,rfl,rfl,hw⟩:=DataW.trod_int hu h;rw[hu];exact ⟨n,rfl,hw⟩
   . rename_i hu;obtain ⟨s,rfl,rfl,_⟩:=DataW.trod_string hu h;rw[hu];exact ⟨_,rfl⟩
   . rename_i e hu;simp only[As,Au] at ht;obtain ⟨hk,hpe⟩:=ht;rw[hu];rcases DataW.trod_slice hu h with ⟨rfl,rfl⟩ | ⟨a,len,cap,elems,rest,n,rfl,rfl,rfl,hb,hl,hc,hel,Cu,_,_⟩
     . exact ⟨[],rfl,by simp⟩
     . refine ⟨elems.map λ x=>ES x.1,by simp only[ES,Wr],λ y hy=>?_⟩;obtain ⟨z,hz,rfl⟩:=AT.1 hy;obtain ⟨i,hi,rfl⟩:=AA.1 hz;have:=Cu i (by omega);rw[Az hi] at this;obtain ⟨cs',h1,h2⟩:=Option.bind_eq_some_iff.1 this;exact ih e hpe _ _ _ h2
   . rename_i fs hu;simp only[As,Au] at ht;rw[hu];obtain ⟨xs,n,rfl,rfl,hl,hxl,Cu⟩:=DataW.trod_struct hu h;simp only[ES];refine Yo fs.toList xs (by simpa using hxl) λ i f x hf hx=>?_;have h1:=Cu i f (by simpa using hf);rw[hx] at h1;exact ih f.type (AB.1 ht.2 f (AR hf)) _ _ _ h1
   . rename_i k e hu;simp only[As,Au] at ht;rw[hu];obtain ⟨xs,n,rfl,rfl,hl,hxl,Cu⟩:=DataW.trod_array hu h;refine ⟨xs.map λ x=>ES x.1,by simp only[ES,Ug],by simpa using hxl,λ y hy=>?_⟩;obtain ⟨z,hz,rfl⟩:=AT.1 hy;obtain ⟨i,hi,rfl⟩:=AA.1 hz;have h1:=Cu i (by omega);rw[Az hi] at h1;exact ih e ht.2 _ _ _ h1
   . cases ht
end
section
variable {P:Program} {n:Nat} {t:TypeId} {cs:List Pd}
theorem SX{k:IntKind}(hu:P.underlying t=some (.int k))(h:p0 P n t cs):∃v,cs=[.int k v]/\(Lit.int k v).wf=true:=by
 cases n with
 | zero=>exact h.elim
 | succ n=>simpa only[p0,hu] using h
theorem Awc{e:TypeId}(hu:P.underlying t=some (.slice e))(h:p0 P n t cs):∃m es,cs=[.sl es]/\∀y∈es,p0 P m e y:=by
 cases n with
 | zero=>exact h.elim
 | succ n=>
   simp only[p0,hu] at h;exact ⟨n,h⟩
theorem Awd{k:Nat}{e:TypeId}(hu:P.underlying t=some (.array k e))(h:p0 P n t cs):∃m,∃es:List (List Pd),cs=es.flatten/\es.length=k/\∀y∈es,p0 P m e y:=by
 cases n with
 | zero=>exact h.elim
 | succ n=>
   simp only[p0,hu] at h;exact ⟨n,h⟩
theorem Ad2{α:Type}(enc:α->List Pd):∀(es:List (List Pd)),(∀y∈es,∃x,y=enc x)->∃l:List α,es=l.map enc
 | [],_=>⟨[],rfl⟩
 | y::r,h=>by
   obtain ⟨x,hx⟩:=h y (by simp);obtain ⟨l,hl⟩:=Ad2 enc r λ z hz=>h z (by simp[hz]);exact ⟨x::l,by simp[hx,hl]⟩
end
end Go.Am
namespace Go.Am
open Go
section
variable {P:Program} {ops rest:List Oper} {k:Kt} {st:St} {o:Oper}
theorem H3(h:Ou P o (O P true ops rest k) st):Af P true ops rest k o st .fail:=⟨rfl,h⟩
theorem Az2{st1:St}(hw:Wk st st1)(h:Do P true ops rest k o st1):Af P true ops rest k o st .fail:=by
 refine H3 λ c a w F M Q hr=>?_;obtain ⟨F1,M1,Hy⟩:=hw c a w F M hr;exact QH Hy h Q
theorem Rel.Ba9{c:Ctx}{a:Act}{w w':World}{F:Nat->Prop}{M:Nat->Mb}(hr:Rel c st a w F M)(hos:w'.os=w.os)(PV:w'.tape=w.tape)(Rj:w'.output=w.output)
   (EZ:w'.heap.size=w.heap.size+1) (hold:∀b,b<w.heap.size->w'.heap[b]?=w.heap[b]?):Rel c st a w' (λ b=>F b∨b=w.heap.size) M:=by
 have hF:∀b,F b->w'.heap[b]?=w.heap[b]?:=λ b hb=>hold b (hr.CR.Fl b hb);have hs:=CX.refl M (sg st.hp);refine ⟨λ t d ht=>(hr.env t d ht).CR hF (λ _ h=> .inl h) hs,hr.size,hr.defers,⟨λ id x hx=>?_,hr.heap.inj⟩,?_⟩
 . refine (hr.heap.obj id x hx).CR hF (λ _ h=> .inl h) hs λ b CN=>?_;have Cr:=hr.heap.lt ⟨id,x,hx,CN⟩;refine ⟨hold _ Cr,?_⟩;rintro (h | h)
   . exact hr.heap.JA ⟨id,x,hx,CN⟩ h
   . omega
 . have hk:=hr.CR;refine ⟨hos.trans hk.os,PV.trans hk.tape,Rj.trans hk.output,by have:=hk.size;omega,λ b hb hO=>?_,λ b hb=> .inl (hk.F0 b hb),λ b hb=>?_,λ b hb=>?_,hk.own,hk.W5,hk.s0b⟩
   . rw[hold b (Nat.lt_of_lt_of_le hb hk.size)];exact hk.NA b hb hO
   . rcases hb with hb | rfl
     . exact hk.Fn b hb
     . exact .inr (.inr hk.size)
   . rcases hb with hb | rfl
     . have:=hk.Fl b hb;omega
     . omega
theorem o7{s d e:TypeId}{x:Operand}{z0 z1 z2:D}{n0 n1 n2 n3 b2:Nat}{l:List UInt8}(ho:o.op= .convert s d x)(hs:CG P s=some ⟨n0,n1,.string,z0⟩)(hd:CG P d=some ⟨n2,n3,.slice e,z1⟩)(he:CG P e=some ⟨1,b2,.int .u8,z2⟩)
   (hx:ev st x= .p (.str l)) (h:O P true ops rest k (st.put o.dst (.p (.sl (Ew l))))):Af P true ops rest k o st .fail:=by
 refine H3 λ c a w F M Q hr=>?_;obtain ⟨_,u1,_,_,Ff,_,e1⟩:=Ce hs;obtain ⟨_,u2,_,_,LF,_,e2⟩:=Ce hd;obtain ⟨_,u3,_,_,hu3,_,e3⟩:=Ce he;simp only[TI.mk.injEq] at e1 e2 e3;obtain rfl:=TK.of_string e1.2.2.1.symm;obtain rfl:=TK.of_slice e2.2.2.1.symm;obtain rfl:=TK.of_int e3.2.2.1.symm;have hv:=Ci hr x;rw[hx] at hv;generalize Mk:a.eval x=v at hv;cases hv with | p hv=>cases hv with | str=>
 have Dy:=Lib.run_convert_string_bytes (P:=P) w s d e ⟨l.toArray⟩ Ff LF hu3;have J2:Rel c st a (Lib.bytesWorld w e ⟨l.toArray⟩) (λ b=>F b∨b=w.heap.size) M:=hr.Ba9 rfl rfl rfl (Lib.bytesWorld_size _ _ _) (λ b hb=>Lib.bytesWorld_at_old _ _ _ b hb);unfold Oper.wp;have hex:(execOp a.eval o).run P w= .ok (.value (.slice (some ⟨w.heap.size,0,none⟩) (⟨l.toArray⟩:ByteArray).size (grownCap w (⟨l.toArray⟩:ByteArray).size 0 e))) (Lib.bytesWorld w e ⟨l.toArray⟩):=by
   simp only[execOp,ho,Mk];simp[Dy]
 rw[hex];refine ⟨_,_,_,h,J2.put ?_ o.dst⟩;have hlen:(⟨l.toArray⟩:ByteArray).size=(Ew l).length:=by simp[Ew,Hk]
 rw[hlen];refine .p (.sl (Ew l) w.heap.size 0 _ 1 _ e _ (.inr rfl) (Lib.bytesWorld_at_new _ _ _) (by have:=grownCap_ge w (Ew l).length 0 e;exact this) (λ i y hy=>?_) (λ i y j q hy hq=>?_) (λ i y j q hy hq=>?_))
 . simp only[Ew,AQ] at hy;cases hb:l[i]? with
   | none=>rw[hb] at hy;cases hy
   | some b=>rw[hb] at hy;cases hy;rfl
 . simp only[Ew,AQ] at hy;cases hb:l[i]? with
   | none=>rw[hb] at hy;cases hy
   | some b=>
     rw[hb] at hy;cases hy;have Cr:=(Ao.1 hb).1;cases j with
     | succ j=>simp at hq
     | zero=>simp[Lib.bytesCells];omega
 . simp only[Ew,AQ] at hy;cases hb:l[i]? with
   | none=>rw[hb] at hy;cases hy
   | some b=>
     rw[hb] at hy;cases hy;have Cr:=(Ao.1 hb).1;cases j with
     | succ j=>simp at hq
     | zero=>
       simp only[AK,An] at hq;subst hq;have:(Lib.bytesCells w e ⟨l.toArray⟩).getD (0+i*1+0) undef= .int .u8 b.toNat:=by
         rw[At];simp[Lib.bytesCells,Array.getElem?_append,Cr];have:=(Ao.1 hb).2;rw[this]
       rw[this];exact .int _ _
theorem Apb{t:TypeId}{x:Operand}{q:Nat}{n0 n1:Nat}{z0:D}{l:List UInt8}(ho:o.op= .range t x)(hq:o.dst=some q)(ht:CG P t=some ⟨n0,n1,.string,z0⟩)(hx:ev st x= .p (.str l))(hn:get st.hp q=none)
   (h:O P true ops rest k (({st with hp:=(q,.iter l 0)::st.hp}:St).put (some q) (.ptr q 0))):Af P true ops rest k o st .fail:=by
 refine H3 λ c a w F M Q hr=>?_;obtain ⟨_,u1,_,_,Ff,_,e1⟩:=Ce ht;simp only[TI.mk.injEq] at e1;obtain rfl:=TK.of_string e1.2.2.1.symm;have hv:=Ci hr x;rw[hx] at hv;generalize Mk:a.eval x=v at hv;cases hv with | p hv=>cases hv with | str=>
 have Cu:=J3 st.hp q (.iter l 0);have hM:∀j,j≠q->Fc M q ⟨w.heap.size,0,[]⟩ j=M j:=λ j hj=>by simp[Fc,hj]
 have IF:Fc M q ⟨w.heap.size,0,[]⟩ q=⟨w.heap.size,0,[]⟩:=by simp[Fc]
 have G4:=F3 Cu hM hn;have hold:∀b,b<w.heap.size->(w.iter ⟨l.toArray⟩ 0).heap[b]?=w.heap[b]?:=λ b hb=>alloc_old w _ b hb;have J2:Rel c {st with hp:=(q,.iter l 0)::st.hp} a (w.iter ⟨l.toArray⟩ 0) F (Fc M q ⟨w.heap.size,0,[]⟩):=by
   refine hr.change Cu hM G4 rfl rfl rfl (by simp[World.iter]) (λ b hb _=>hold b hb) ?_ (λ b hb=> .inr (by have:b=_:=hb;rw[this,IF];exact Ai _));rw[IF];exact ⟨λ hF=>Nat.lt_irrefl _ (hr.CR.Fl _ hF),World.iter_heap _ _ _⟩
 unfold Oper.wp;have hex:(execOp a.eval o).run P w= .ok (.value (.pointer (some ⟨w.heap.size,0,none⟩))) (w.iter ⟨l.toArray⟩ 0):=by
   simp only[execOp,ho,Mk];simp[run_range_string w t ⟨l.toArray⟩ Ff]
 rw[hex];rw[<-hq] at h;refine ⟨_,_,_,h,J2.put ?_ o.dst⟩;have:=DR.ptr (F:=F) (w:=w.iter ⟨l.toArray⟩ 0) (M:=Fc M q ⟨w.heap.size,0,[]⟩) (s:=sg ((q,.iter l 0)::st.hp)) q 0 (by rw[C7 Cu];simp[AO.sg]);rwa[IF] at this
theorem As9{it:Operand}{id:Nat}{l:List UInt8}{pos:Nat}(ho:o.op= .next it true)(hx:ev st it= .ptr id 0)(hg:get st.hp id=some (.iter l pos))(ha:∀b∈l,b.toNat<128)
   (h1:∀(Cr:pos<l.length),O P true ops rest k (({st with hp:=Cy st.hp id (.iter l (pos+1))}:St).put o.dst (.Dr [.p (.bool true),.p (.int .i64 pos),.p (.int .i32 (l[pos]).toNat)])))
   (h2:¬pos<l.length->O P true ops rest k (st.put o.dst (.Dr [.p (.bool false)]))):Af P true ops rest k o st .fail:=by
 refine H3 λ c a w F M Q hr=>?_;have hv:=Ci hr it;rw[hx] at hv;generalize Mk:a.eval it=v at hv;cases hv with
 | ptr _ _ hs=>
   obtain ⟨MR,Rp⟩:=hr.heap.obj id _ hg;unfold Oper.wp;by_cases Cr:pos<l.length
   . have Axl:pos<(⟨l.toArray⟩:ByteArray).size:=by rw[Hk];exact Cr
     have hb:((⟨l.toArray⟩:ByteArray)[pos]'Axl)=l[pos]:=by simp[ByteArray.getElem_eq_getElem_data]
     have Dy:=Go.Lib.run_next_ascii_at (P:=P) w (M id).DK ⟨l.toArray⟩ pos o.type Rp Axl (by rw[hb];exact ha _ (AM Cr));have hex:(execOp a.eval o).run P w= .ok (.value (.tuple #[.bool true,.int .i64 pos,.int .i32 (l[pos]).toNat])) (w.iterAt (M id).DK ⟨l.toArray⟩ (pos+1)):=by
       simp only[execOp,ho,Mk];simp[Dy,hb]
     rw[hex];have XB:(M id).DK<w.heap.size:=(Bh.1 Rp).1;have Cu:∀j,get (Cy st.hp id (.iter l (pos+1))) j=if j=id then some (.iter l (pos+1)) else get st.hp j:=CS _ _ _
     have Hr:=DB Cu hg rfl;have J2:Rel c {st with hp:=Cy st.hp id (.iter l (pos+1))} a (w.iterAt (M id).DK ⟨l.toArray⟩ (pos+1)) F M:=by
       refine hr.change (M':=M) Cu (λ _ _=>rfl) (by rw[Hr];exact CX.refl _ _) rfl rfl rfl (by simp[World.iterAt]) (λ b hb Dl=>?_) ⟨MR,Go.Lib.iterAt_heap w _ _ _ _ Rp⟩ (λ b hb=> .inl ⟨_,hg,hb⟩);have:b≠(M id).DK:=Dl _ hg;simp[World.iterAt,Array.getElem?_setIfInBounds,Be this]
     refine ⟨_,_,_,h1 Cr,J2.put ?_ o.dst⟩;refine .Dr _ _ rfl λ i d hd=>?_
     match i,hd with
     | 0,hd=>simp only[AK,An] at hd;subst hd;exact .p (.bool true)
     | 1,hd=>simp only[List.getElem?_cons_succ,AK,An] at hd;subst hd;exact .p (.int _ _)
     | 2,hd=>simp only[List.getElem?_cons_succ,AK,An] at hd;subst hd;exact .p (.int _ _)
     | i+3,hd=>simp at hd
   . have Dy:=Go.Lib.run_next_end_at (P:=P) w (M id).DK ⟨l.toArray⟩ pos o.type Rp (by rw[Hk];exact Cr);have hex:(execOp a.eval o).run P w= .ok (.value (.tuple #[.bool false])) w:=by
       simp only[execOp,ho,Mk];simp[Dy]
     rw[hex];refine ⟨_,_,_,h2 Cr,hr.put ?_ o.dst⟩;refine .Dr _ _ rfl λ i d hd=>?_
     match i,hd with
     | 0,hd=>simp only[AK,An] at hd;subst hd;exact .p (.bool false)
     | i+1,hd=>simp at hd
end
end Go.Am
namespace Go.Am
open Go
theorem Wk.seal{st:St}{t id:Nat}{ty:TypeId}{xs:List Pd}{env1:List (Nat×D)}{hp1:Hp}(ht:get st.env t=some (.ptr id 0))(ho:get st.hp id=some (.box (xs.map .p) ty))(h1:get hp1 id=none)(hl:Le st ⟨env1,hp1,st.n⟩):
   Wk st ⟨(t,.pe xs)::env1,hp1,st.n⟩:=by
 intro c a w F M hr;have Hy:=hr.forget hl;obtain ⟨MR,row,_,Dj,EZ,Df⟩:=hr.heap.obj id _ ho;have CN:ET M st.hp (M id).DK:=⟨id,_,ho,rfl⟩;have hLH:C3 st.hp hp1:=hl.2.2.1;have hs:=CX.refl M (sg hp1);refine ⟨λ b=>F b∨b=(M id).DK,M,⟨λ q d hq=>?_,Hy.size,Hy.defers,⟨λ j o hj=>?_,Hy.heap.inj⟩,?_⟩⟩
 . rw[Ct] at hq;split at hq
   . rename_i e;subst e;cases hq;have hv:=hr.env _ _ ht;generalize a.tmps.getD t undef=v at hv;cases hv with
     | ptr _ _ _=>
       refine .pe xs (M id).DK 0 row _ (0,0) (.inr rfl) Dj (λ j x hx=>?_) (λ j x hx=>?_)
       . have:=(Ao.1 hx).1;simp at EZ;omega
       . have:=(Df.1 j (.p x) (by simp[hx])).1;rw[Bi];cases this with | p hp=>exact hp.CR (λ _ _=>rfl) (λ _ h=> .inl h)
   . exact (Hy.env q d hq).CR (λ _ _=>rfl) (λ _ h=> .inl h) hs
 . refine (Hy.heap.obj j o hj).CR (λ _ _=>rfl) (λ _ h=> .inl h) hs λ b UZ=>⟨rfl,?_⟩;rintro (h | h)
   . exact Hy.heap.JA ⟨j,o,hj,UZ⟩ h
   . have:=hr.heap.inj j o id _ b (hLH.spec j o hj) ho UZ h;subst this;simp only at hj;rw[h1] at hj;cases hj
 . have hk:=Hy.CR;refine ⟨hk.os,hk.tape,hk.output,hk.size,hk.NA,λ b hb=> .inl (hk.F0 b hb),λ b hb=>?_,λ b hb=>?_,hk.own,hk.W5,hk.s0b⟩
   . rcases hb with hb | rfl
     . exact hk.Fn b hb
     . exact .inr (hr.CR.own _ CN)
   . rcases hb with hb | rfl
     . exact hk.Fl b hb
     . exact (Bh.1 Dj).1
section
variable {P:Program} {ops rest:List Oper} {k:Kt} {st:St} {o:Oper}
theorem o6{t e:TypeId}{x lo:Operand}{z0:D}{n0 n1 n:Nat}{ti:TI}{xs:List Pd}{kd:IntKind}{L:Nat}(ho:o.op= .slice t x (some lo) none none)(ht:CG P t=some ⟨n0,n1,.array n e,z0⟩)(he:CG P e=some ti)
   (hx:ev st x= .pe xs) (r4:ev st lo= .p (.int kd (L:Nat))) (hL:L<n) (Iv:xs.length=n*ti.size) (EZ:0<ti.size)
   (h:O P true ops rest k (st.put o.dst (.p (.sl ((chunk ti.size n xs).drop L))))):Af P true ops rest k o st .fail:=by
 refine H3 λ c a w F M Q hr=>?_;obtain ⟨_,u1,_,_,Ff,_,e1⟩:=Ce ht;simp only[TI.mk.injEq] at e1;obtain rfl:=TK.of_array e1.2.2.1.symm;obtain ⟨i2,u2,z2,D7,LF,_,rfl⟩:=Ce he;simp only at Iv EZ h;have hv:=Ci hr x;rw[hx] at hv;generalize Mk:a.eval x=v at hv;have Rg:=Ci hr lo;rw[r4] at Rg;generalize Baw:a.eval lo=vl at Rg;cases Rg with | p Rg=>cases Rg with | int=>
 cases hv with
 | pe _ b off row ty fr hF hh hi hp=>
   unfold Oper.wp;have hex:(execOp a.eval o).run P w= .ok (.value (.slice (some ⟨b,off+L*i2.size,none⟩) (n - L) (n - L))) w:=by
     have Dl:¬n=L:=by omega
     simp only[execOp,ho,Mk,Baw,Bm,Option.map_none];simp[Instr.sliceAt,Instr.sureAddr,Instr.sliceBounds,Instr.sliceBound,asIntOf,run_underlying Ff,Dm D7,Dl,Addr.add_lit];omega
   rw[hex];refine ⟨_,_,_,h,hr.put ?_ o.dst⟩;have hlen:((chunk i2.size n xs).drop L).length=n - L:=by rw[List.length_drop,I5]
   have Cu:∀(i:Nat) y,((chunk i2.size n xs).drop L)[i]?=some y->L+i<n/\y=(xs.drop ((L+i)*i2.size)).take i2.size:=by
     intro i y hy;rw[AS,NR] at hy;split at hy
     . rename_i Cr;cases hy;exact ⟨Cr,rfl⟩
     . cases hy
   have Om:∀(i:Nat) y (j:Nat) q,((chunk i2.size n xs).drop L)[i]?=some y->y[j]?=some q->xs[(L+i)*i2.size+j]?=some q:=by
     intro i y j q hy hq;obtain ⟨_,rfl⟩:=Cu i y hy;rw[AI] at hq;split at hq
     . rw[AS] at hq;exact hq
     . cases hq
   have Aqz:∀i j,off+L*i2.size+i*i2.size+j=off+((L+i)*i2.size+j):=λ i j=>by rw[Bc];omega
   rw[<-hlen];refine .p (.sl _ b (off+L*i2.size) _ i2.size row ty fr hF hh (Ai _) (λ i y hy=>?_) (λ i y j q hy hq=>?_) (λ i y j q hy hq=>?_))
   . obtain ⟨Cr,rfl⟩:=Cu i y hy;rw[Bf,List.length_drop,Iv];have:(L+i+1)*i2.size<=n*i2.size:=Bp _ Cr;rw[Bc] at this;omega
   . rw[Aqz];exact hi _ _ (Om i y j q hy hq)
   . rw[Aqz];exact hp _ _ (Om i y j q hy hq)
end
end Go.Am
namespace Go.Am
open Go
theorem Wk.Fq{st:St}{id j q sz:Nat}{cs:List D}{ty:TypeId}(e:TypeId)(hb:get st.hp id=some (.box cs ty))(hj:cs[j]?=some (.cl []))(hq:get st.hp q=none)(hs:0<sz):
   Wk st ⟨st.env,(q,.arr e sz [])::Cy st.hp id (.box (cs.set j (.ref q 0 0 0)) ty),st.n⟩:=by
 intro c a w F M hr;obtain ⟨Hy,h1⟩:=hr.Ty (e:=e) hq hs;have Dl:id≠q:=λ h=>by subst h;rw[hq] at hb;cases hb
 have R7:get ((q,AO.arr e sz [])::st.hp) id=some (.box cs ty):=by rw[Ct,if_neg (Be Dl)];exact hb
 have Cu:∀i,get ((q,AO.arr e sz [])::Cy st.hp id (.box (cs.set j (.ref q 0 0 0)) ty)) i=if i=id then some (.box (cs.set j (.ref q 0 0 0)) ty) else get ((q,AO.arr e sz [])::st.hp) i:=by
   intro i;simp only[Ct,CS];by_cases e1:i=id
   . subst e1;simp[Be Dl]
   . by_cases e2:q=i
     . subst e2;simp[e1]
     . simp[e1,e2]
 have Hr:=DB Cu R7 rfl;have Al7:=Hy.heap.obj id _ R7;obtain ⟨MR,row,t,Dj,EZ,Df⟩:=Al7;refine ⟨F,Fc M q ⟨0,0,[]⟩,?_⟩;refine Hy.change (st:=⟨st.env,(q,AO.arr e sz [])::st.hp,st.n⟩) Cu (λ _ _=>rfl) (by rw[Hr];exact CX.refl _ _) rfl rfl rfl (Ai _) (λ _ _ _=>rfl) ?_ (λ b hb=> .inl ⟨_,R7,hb⟩);refine ⟨MR,row,t,Dj,by simpa using EZ,λ i d hd=>?_,λ h5 h6 i hi=>?_⟩;rotate_left
 . refine Df.2 h5 ?_ i ?_
   . obtain ⟨x,hx,hn⟩:=AU.1 h6;rcases List.mem_or_eq_of_mem_set hx with h7 | rfl
     . exact AU.2 ⟨x,h7,hn⟩
     . cases hn
   . by_cases e1:i=j
     . subst e1;rw[Bw (Ao.1 hj).1] at hi;cases hi
     . rwa[List.getElem?_set_ne (Be e1)] at hi
 rw[Hr];by_cases e1:i=j
 . subst e1;have Cr:=(Ao.1 hj).1;rw[Bw Cr] at hd;cases hd;have h2:=Df.1 i _ hj;refine ⟨?_,h2.2⟩;have h3:=h2.1;generalize row.getD i undef=v at h3;cases h3 with | cl _ ad _ _=>exact h1 ad
 . rw[List.getElem?_set_ne (Be e1)] at hd;exact Df.1 i d hd
theorem Wk.pure{st:St}{t id sz:Nat}{e:TypeId}{es:List (List Pd)}(ht:get st.env t=some (.ref id 0 es.length es.length))(ho:get st.hp id=some (.arr e sz es)):
   Wk st ⟨(t,.p (.sl es))::st.env,Cy st.hp id (.M3 sz es),st.n⟩:=by
 intro c a w F M hr;have hd:=hr.env _ _ ht;obtain ⟨x,h',F',⟨rfl,rfl⟩,J2,hF,hs,hp⟩:=Lu hr hd (k:=λ x h'=>x= .sl es/\h'=Cy st.hp id (.M3 sz es)) (by simp[KF,ho,froze]);refine ⟨F',M,⟨λ j d hj=>?_,J2.size,J2.defers,J2.heap,J2.CR⟩⟩;rw[Ct] at hj;split at hj
 . rename_i e1;subst e1;cases hj;exact .p hp
 . exact J2.env j d hj
attribute [go_sem] SG
theorem Adz(ρ:Nat->Option Nat)(xs:List Pd):Hz ρ (xs.map D.p)=xs.map D.p:=by
 induction xs with
 | nil=>rfl
 | cons x r ih=>simp[Hz,D.D8,ih]
theorem Ake(xs:List Pd):(xs.map D.p).all D.one=true:=by
 induction xs with
 | nil=>rfl
 | cons x r ih=>simp[D.one]
theorem CH{P:Program}{l:List Oper}{id:Nat}{p:List (Nat×Nat)}{k:Kt}{st:St}(hm:P.follows .mixedOrders=true)(hB:Aca l p=true)(hle:C3 st.hp st.hp)(h:G P l st.hp p k st):
   X P (.region id l.toArray true) k st:=Di st.hp hm hB hle h
attribute [go_sem] Adz Ake List.length_map
end Go.Am
namespace Go.Am
open Go
def jmp(P:Program)(c:Code)(Q:Exit->Act->World->Prop):Nat->Exit->Act->World->Prop
 | 0,.goto _,_,_=>False
 | n+1,.goto l,a,w=>∃rest,findLabel c l=some rest/\rest.wp P (jmp P c Q n) a w
 | _,.normal,a,w=>Q .normal a w
 | _,.exit id,a,w=>Q (.exit id) a w
 | _,.ret,a,w=>Q .ret a w
 | _,.panic ch,a,w=>Q (.panic ch) a w
 | _,.outgrown,a,w=>Q .outgrown a w
theorem WW{P:Program}{a:Act}{w:World}{Q:Exit->Act->World->Prop}{c:Code}(n:Nat)(first:c.wp P (jmp P c Q n) a w):(Code.scope c).wp P Q a w:=by
 intro b k cs;have key:∀n (c1:Code) a w,c1.wp P (jmp P c Q n) a w->∃e a' w',Q e a' w'/\Arrives P (lone (b.at a (.code c1:: .inScope c::k)) cs w) b k cs e a' w':=by
   intro n
   induction n with
   | zero=>
     intro c1 a w h;obtain ⟨e,a₁,w₁,hq,P6⟩:=h b (.inScope c::k) cs;cases e with
     | normal=>exact ⟨.normal,a₁,w₁,hq,Steps.trans P6 (.one step_inScope)⟩
     | exit id=>exact ⟨.exit id,a₁,w₁,hq,λ k' hk=>P6 k' (by simp[exitTo,hk])⟩
     | goto l'=>exact hq.elim
     | ret=>exact ⟨_,a₁,w₁,hq,P6⟩
     | panic ch=>exact ⟨_,a₁,w₁,hq,P6⟩
     | outgrown=>exact ⟨_,a₁,w₁,hq,P6⟩
   | succ n ih=>
     intro c1 a w h;obtain ⟨e,a₁,w₁,hq,P6⟩:=h b (.inScope c::k) cs;cases e with
     | normal=>exact ⟨.normal,a₁,w₁,hq,Steps.trans P6 (.one step_inScope)⟩
     | exit id=>exact ⟨.exit id,a₁,w₁,hq,λ k' hk=>P6 k' (by simp[exitTo,hk])⟩
     | goto l'=>
       obtain ⟨rest,hf,hx⟩:=hq;have hg:gotoIn l' (.inScope c::k)=some (.code rest:: .inScope c::k):=by simp[gotoIn,hf]
       obtain ⟨e₂,a₂,w₂,hq₂,Ay1⟩:=ih rest a₁ w₁ hx;exact ⟨e₂,a₂,w₂,hq₂,.of_steps (P6 _ hg) Ay1⟩
     | ret=>exact ⟨_,a₁,w₁,hq,P6⟩
     | panic ch=>exact ⟨_,a₁,w₁,hq,P6⟩
     | outgrown=>exact ⟨_,a₁,w₁,hq,P6⟩
 obtain ⟨e,a',w',hq,P6⟩:=key n c a w first
 exact ⟨e,a',w',hq,.of_steps (.one step_scope) P6⟩
def scQ(P:Program)(x:Code)(k:Kt):Nat->Exit->St->Prop
 | 0,.goto _,_=>False
 | n+1,.goto l,st=>∃st1 rest,Wk st st1/\findLabel x l=some rest/\wA P rest (scQ P x k n) st1
 | _,.normal,st=>J P k .normal st
 | _,.exit id,st=>J P k (.exit id) st
 | _,.ret,st=>J P k .ret st
 | _,.panic ch,st=>J P k (.panic ch) st
 | _,.outgrown,st=>J P k .outgrown st
def Jm(P:Program)(x:Code)(k:Kt)(n l:Nat)(st:St):Prop:=scQ P x k n (.goto l) st
section
variable {P:Program} {st:St} {x:Code} {k:Kt}
theorem Ac7{c:Ctx}:∀(n:Nat) (e:Exit) (a:Act) (w:World),QC c (scQ P x k n) e a w->jmp P x (QC c (k.Fi P)) n e a w
 | 0,.goto _,_,_,⟨_,_,_,h,_⟩=>h.elim
 | n+1,.goto l,a,w,⟨st,F,M,⟨st1,rest,hw,hf,hx⟩,hr⟩=>by
   obtain ⟨F1,M1,Hy⟩:=hw c a w F M hr;exact ⟨rest,hf,Code.wp_mono (Ac7 n) (Hi rest Hy hx)⟩
 | 0,.normal,_,_,h=>h
 | 0,.exit _,_,_,h=>h
 | 0,.ret,_,_,h=>h
 | 0,.panic _,_,_,h=>h
 | 0,.outgrown,_,_,h=>h
 | _+1,.normal,_,_,h=>h
 | _+1,.exit _,_,_,h=>h
 | _+1,.ret,_,_,h=>h
 | _+1,.panic _,_,_,h=>h
 | _+1,.outgrown,_,_,h=>h
theorem Ad5(n:Nat)(h:X P x (.user (scQ P x k n)) st):X P (.scope x) k st:=
 λ c a w F M hr=>WW n (Code.wp_mono (Ac7 n) (Hi x hr h))
theorem Ai8(n l:Nat):J P (.user (scQ P x k n)) (.goto l) st=Jm P x k n l st:=nd rfl
theorem n9(n:Nat):J P (.user (scQ P x k n)) .normal st=J P k .normal st:=by cases n<;>rfl
theorem Ap1(n:Nat):J P (.user (scQ P x k n)) .ret st=J P k .ret st:=by cases n<;>rfl
theorem Sp{β:Type}(Yc:β->Nat)(S:β->St)(I:β->Prop)(μ:β->Nat)(N:Nat)
   (h0:∀n,(∀b' st',I b'->μ b'<N->Wk st' (S b')->Jm P x k n (Yc b') st')->X P x (.user (scQ P x k n)) st)
   (hs:∀b n,I b->(∀b' st',I b'->μ b'<μ b->Wk st' (S b')->Jm P x k n (Yc b') st')->∃rest,findLabel x (Yc b)=some rest/\X P rest (.user (scQ P x k n)) (S b)):X P (.scope x) k st:=by
 have key:∀n b st',I b->μ b<n->Wk st' (S b)->Jm P x k n (Yc b) st':=by
   intro n
   induction n with
   | zero=>intro b _ _ h;exact (AZ _ h).elim
   | succ n ih=>
     intro b st' hb hm hw;obtain ⟨rest,hf,hx⟩:=hs b n hb λ b' Ba1 SD Cr Hb=>ih b' Ba1 SD (by omega) Hb;exact ⟨S b,rest,hw,hf,hx⟩
 exact Ad5 N (h0 N λ b' st' SD Cr hw=>key N b' st' SD Cr hw)
end
attribute [go_sem] Ai8 n9 Ap1
end Go.Am
namespace Go.Am
open Go
section
variable {P:Program} {ops rest:List Oper} {k:Kt} {st:St} {o:Oper}
theorem Abv{s d e:TypeId}{x:Operand}{z0 z1 z2:D}{n0 n1 n2 n3 b2:Nat}{l:List UInt8}{id:Nat}{t:TypeId}(ho:o.op= .convert s d x)(hs:CG P s=some ⟨n0,n1,.slice e,z0⟩)(hd:CG P d=some ⟨n2,n3,.string,z1⟩)(he:CG P e=some ⟨1,b2,.int .u8,z2⟩)
   (hx:ev st x= .ref id 0 l.length l.length) (hg:get st.hp id=some (.arr t 1 (Ew l))) (h:O P true ops rest k (st.put o.dst (.p (.str l)))):Af P true ops rest k o st .fail:=by
 refine H3 λ c a w F M Q hr=>?_;obtain ⟨_,u1,_,_,Ff,_,e1⟩:=Ce hs;obtain ⟨_,u2,_,_,LF,_,e2⟩:=Ce hd;obtain ⟨_,u3,_,_,hu3,_,e3⟩:=Ce he;simp only[TI.mk.injEq] at e1 e2 e3;obtain rfl:=TK.of_slice e1.2.2.1.symm;obtain rfl:=TK.of_string e2.2.2.1.symm;obtain rfl:=TK.of_int e3.2.2.1.symm;have hv:=Ci hr x;rw[hx] at hv;generalize Mk:a.eval x=v at hv;have hlen:(Ew l).length=l.length:=by simp[Ew]
 have Dy:(convert s d v).run P w= .ok (.string ⟨l.toArray⟩) w:=by
   cases hv with
   | ref _ _ _ _ sz n _ Hr hN SA PZ=>
     have hsn:sg st.hp id=some (.arr 1 l.length):=by simp[sg,hg,AO.sg,hlen]
     rw[hsn] at Hr;simp only[An,Sg.arr.injEq] at Hr;obtain ⟨rfl,rfl⟩:=Hr;obtain ⟨ad,cap,rfl,h1,h2,h3,h4⟩:=PZ rfl;obtain ⟨h5,h6,h7,h8,h9⟩:=hr.heap.obj id _ hg;by_cases hc:cap=0
     . have hl0:l=[]:=AY (by omega);subst hl0;cases ad with
       | none=>
         rw[run_convert_bytes_string w s d e none _ cap Ff hu3 LF];simp[Conv.bytesToString];rfl
       | some ad=>exact run_convert_bytes_back w s d e ad cap [] Ff hu3 LF (λ j hj=>by simp at hj)
     . obtain rfl:=h4.resolve_left hc;obtain ⟨_,row,⟨fr,Dj,_⟩,EZ,Df⟩:=h9 (by omega);refine run_convert_bytes_back w s d e _ cap l Ff hu3 LF λ j hj=>?_;have hp:=Df j [.int .u8 (l[j]).toNat] 0 (.int .u8 (l[j]).toNat) (by simp[Ew,hj]) rfl;have Cr:j<row.size:=by omega
       have Om:w.cell? ((⟨(M id).DK,0*1,none⟩:Addr).add j)=row[j]?:=by
         rw[Addr.add_lit];simp[World.cell?,Dj]
       rw[Om];simp only[Nat.mul_one,BC] at hp;rw[At,Array.getElem?_eq_getElem Cr] at hp;rw[Array.getElem?_eq_getElem Cr];simp only[A4] at hp;generalize row[j]=y at hp;cases hp;rfl
 unfold Oper.wp;have hex:(execOp a.eval o).run P w= .ok (.value (.string ⟨l.toArray⟩)) w:=by
   simp only[execOp,ho,Mk];simp[Dy]
 rw[hex];exact ⟨_,_,_,h,hr.put (.p (.str l)) o.dst⟩
theorem Aif{s d e:TypeId}{x:Operand}{z0 z1 z2:D}{n0 n1 n2 n3 b2 q:Nat}{l:List UInt8}(ho:o.op= .convert s d x)(hq:o.dst=some q)(hs:CG P s=some ⟨n0,n1,.string,z0⟩)(hd:CG P d=some ⟨n2,n3,.slice e,z1⟩)(he:CG P e=some ⟨1,b2,.int .u8,z2⟩)
   (hx:ev st x= .p (.str l)) (hn:get st.hp q=none) (hl:l.length<=100000) (h:O P true ops rest k (({st with hp:=(q,.arr e 1 (Ew l))::st.hp}:St).put (some q) (.ref q 0 l.length l.length))):Af P true ops rest k o st .fail:=by
 refine H3 λ c a w F M Q hr=>?_;obtain ⟨_,u1,_,_,Ff,_,e1⟩:=Ce hs;obtain ⟨_,u2,_,_,LF,_,e2⟩:=Ce hd;obtain ⟨_,u3,_,_,hu3,_,e3⟩:=Ce he;simp only[TI.mk.injEq] at e1 e2 e3;obtain rfl:=TK.of_string e1.2.2.1.symm;obtain rfl:=TK.of_slice e2.2.2.1.symm;obtain rfl:=TK.of_int e3.2.2.1.symm;have hv:=Ci hr x;rw[hx] at hv;generalize Mk:a.eval x=v at hv;cases hv with | p hv=>cases hv with | str=>
 have Dy:=Lib.run_convert_string_bytes (P:=P) w s d e ⟨l.toArray⟩ Ff LF hu3;have hlen:(Ew l).length=l.length:=by simp[Ew]
 have Hq:(⟨l.toArray⟩:ByteArray).size=l.length:=Hk l;obtain ⟨J2,U0⟩:=hr.Acd (q:=q) (cap:=grownCap w l.length 0 e) (sz:=1) (es:=Ew l) (e:=e) (vs:=Lib.bytesCells w e ⟨l.toArray⟩) (w':=Lib.bytesWorld w e ⟨l.toArray⟩) hn ⟨_,Lib.bytesWorld_at_new _ _ _,λ i hi h=>by omega⟩ (Lib.bytesWorld_size _ _ _) (λ b hb=>Lib.bytesWorld_at_old _ _ _ b hb) rfl rfl rfl (by decide)
   (by rw[hlen];exact grownCap_ge w l.length 0 e) (grownCap_le_maxLen w _ _ _ (by unfold maxLen;omega)) (λ i x hx=>by
     simp only[Ew,AQ] at hx;cases hb:l[i]? with
     | none=>rw[hb] at hx;cases hx
     | some b=>rw[hb] at hx;cases hx;rfl)
   (by
     have h1:=grownCap_ge w l.length 0 e;simp[Lib.bytesCells,Hq];omega)
   (λ i x j y hx hy=>by
     simp only[Ew,AQ] at hx;cases hb:l[i]? with
     | none=>rw[hb] at hx;cases hx
     | some b=>
       rw[hb] at hx;cases hx;have Cr:=(Ao.1 hb).1;cases j with
       | succ j=>simp at hy
       | zero=>
         simp only[AK,An] at hy;subst hy;have:(Lib.bytesCells w e ⟨l.toArray⟩).getD (i*1+0) undef= .int .u8 b.toNat:=by
           rw[At];simp[Lib.bytesCells,Array.getElem?_append,Cr];have:=(Ao.1 hb).2;rw[this]
         rw[this];exact .int _ _)
 rw[hlen] at U0;unfold Oper.wp;have hex:(execOp a.eval o).run P w= .ok (.value (.slice (some ⟨w.heap.size,0,none⟩) (⟨l.toArray⟩:ByteArray).size (grownCap w (⟨l.toArray⟩:ByteArray).size 0 e))) (Lib.bytesWorld w e ⟨l.toArray⟩):=by
   simp only[execOp,ho,Mk];simp[Dy]
 rw[hex,Hq];rw[<-hq] at h;exact ⟨_,_,_,h,J2.put U0 o.dst⟩
end
end Go.Am
namespace Go.Am
open Go
theorem Hv(h e:Hp)(j:Nat):get (h++e) j=match get h j with | some o=>some o | none=>get e j:=by
 induction h with
 | nil=>rfl
 | cons x r ih=>
   obtain ⟨k,o⟩:=x;simp only[A5,Ct];split
   . rfl
   . exact ih
theorem B1.FY{P:Program}{f:FuncId}{args:List D}{h:Hp}{R:Hp->D->Prop}{id g:Nat}{cs:List Pd}(hc:B1 P f args h R)(hid:base<=id)(hn:get h id=none)
   (Aur:((Du args++Ek h).all λ i=>(get h i).isSome)=true) (hRn:∀h1 r,R h1 r->get h1 id=none):
   B1 P f args (h++[(id,.FY g cs)]) λ h' r=>∃h1,R h1 r/\h'=h1++[(id,.FY g cs)]:=by
 intro vs w F M hHR hFl hsb hd;have Cu:∀j o,get h j=some o->get (h++[(id,AO.FY g cs)]) j=some o:=λ j o ho=>by rw[Hv,ho]
 have hgl:get (h++[(id,AO.FY g cs)]) id=some (.FY g cs):=by rw[Hv,hn];simp[Ct]
 have Oi:∀i,i∈Du args++Ek h->∃o,get h i=some o:=λ i hi=>Bu.1 (AB.1 Aur i hi)
 let ρ:Nat->Option Nat:=λ i=>if (get h i).isSome then some i else none
 have hρ:∀i j,ρ i=some j->sg (h++[(id,AO.FY g cs)]) i≠none->M j=M i/\sg h j=sg (h++[(id,AO.FY g cs)]) i:=by
   intro i j hj _;simp only[ρ] at hj;split at hj
   . rename_i hs;simp only[An] at hj;subst hj;obtain ⟨o,ho⟩:=Bu.1 hs;exact ⟨rfl,by simp[sg,ho,Cu _ _ ho]⟩
   . cases hj
 have Axr:∀i,(∃o,get h i=some o)->ρ i=some i:=λ i ⟨o,ho⟩=>by simp[ρ,ho]
 have Alj:HR F w M h:=by
   constructor
   . intro i o ho;have:=(hHR.obj i o (Cu i o ho)).D8 (M':=M) hρ;rwa[AO.QS (λ j hj=>Axr j (Oi j (List.mem_append_right _ (Ri ho hj))))] at this
   . intro i o i' o' b ho NH CN El;exact hHR.inj i o i' o' b (Cu _ _ ho) (Cu _ _ NH) CN El
 have N8:Kq F w M (sg h) args vs.toList:=by
   refine ⟨hd.1,λ i d hi=>?_⟩;have:=(hd.2 i d hi).D8 (M':=M) hρ;rwa[QS (λ j hj=>Axr j (Oi j (BM _ ?_)))] at this;clear this;have E0:∀(l:List D) (i:Nat),l[i]?=some d->j∈Du l:=by
     intro l
     induction l with
     | nil=>intro i hi;simp at hi
     | cons x r ih=>
       intro i hi;simp only[Du,Av];cases i with
       | zero=>simp only[AK,An] at hi;subst hi;exact .inl hj
       | succ i=>exact .inr (ih i (by simpa using hi))
   exact E0 args i hi
 have Al4:∀b,ET M (h++[(id,AO.FY g cs)]) b↔ET M h b:=by
   intro b;constructor
   . rintro ⟨i,o,ho,CN⟩;rw[Hv] at ho;cases hg:get h i with
     | some o2=>rw[hg] at ho;cases ho;exact ⟨i,_,hg,CN⟩
     | none=>
       rw[hg] at ho;simp only[Ct] at ho;split at ho
       . cases ho;exact CN.elim
       . simp[get] at ho
   . rintro ⟨i,o,ho,CN⟩;exact ⟨i,o,Cu _ _ ho,CN⟩
 refine (hc vs w F M Alj hFl (λ i hi=>hsb i (by
   unfold sg at hi ⊢;cases hg:get h i with
   | none=>rw[hg] at hi;exact (hi rfl).elim
   | some o=>rw[Cu _ _ hg];simp)) N8).mono ?_
 rintro e w' ⟨v,h1,r,F',M',rfl,hR,Vq,Auy,hK⟩;have XA:=hRn h1 r hR;have Al9:∀b,F b->w'.heap[b]?=w.heap[b]?:=λ b hb=>hK.NA b (hFl b hb) (λ ho=>Alj.JA ho hb)
 let M2:Nat->Mb:=λ i=>if i=id then M id else M' i
 have hM2:∀i,i≠id->M2 i=M' i:=λ i hi=>by simp[M2,hi]
 have Dl:∀i o,get h1 i=some o->i≠id:=λ i o ho e=>by subst e;rw[XA] at ho;cases ho
 have KU:∀j o,get h1 j=some o->get (h1++[(id,AO.FY g cs)]) j=some o:=λ j o ho=>by rw[Hv,ho]
 have Bbl:get (h1++[(id,AO.FY g cs)]) id=some (.FY g cs):=by rw[Hv,XA];simp[Ct]
 have Acq:∀j o,get (h1++[(id,AO.FY g cs)]) j=some o->get h1 j=some o∨(j=id/\o= .FY g cs):=by
   intro j o ho;rw[Hv] at ho;cases hg:get h1 j with
   | some o2=>rw[hg] at ho;exact .inl ho
   | none=>
     rw[hg] at ho;simp only[Ct] at ho;split at ho
     . rename_i e;cases ho;exact .inr ⟨e.symm,rfl⟩
     . simp[get] at ho
 have MO:∀i s,sg h1 i=some s->sg (h1++[(id,AO.FY g cs)]) i=some s/\M2 i=M' i:=by
   intro i s hs;unfold sg at hs ⊢;cases hg:get h1 i with
   | none=>rw[hg] at hs;cases hs
   | some o=>rw[hg] at hs;rw[KU _ _ hg];exact ⟨hs,hM2 i (Dl i o hg)⟩
 have Ax3:CX M' M2 (sg h1) (sg (h1++[(id,AO.FY g cs)])):=
   ⟨λ i hi=>⟨(MO i _ hi).1,by rw[(MO i _ hi).2]⟩,λ i sz n hi=>⟨n,(MO i _ hi).1,Ai _,λ _=>(MO i _ hi).2⟩,λ i sz n kk hi=>⟨n,kk,(MO i _ hi).1,Ai _,Ai _,λ _=>by rw[(MO i _ hi).2];exact ⟨rfl,rfl⟩,λ _=>by rw[(MO i _ hi).2]⟩⟩
 refine ⟨v,h1++[(id,.FY g cs)],r,F',M2,rfl,⟨h1,hR,rfl⟩,⟨λ j o ho=>?_,λ i o i' o' b ho NH CN El=>?_⟩,Auy.CR (λ _ _=>rfl) (λ _ h=>h) Ax3,?_⟩
 . rcases Acq j o ho with h2 | ⟨rfl,rfl⟩
   . have h3:=Vq.obj j o h2;rw[hM2 j (Dl j o h2)];exact h3.CR (λ _ _=>rfl) (λ _ h=>h) Ax3 (λ b CN=>⟨rfl,Vq.JA ⟨j,o,h2,CN⟩⟩)
   . obtain ⟨h4,row,t,fr,h5,h7,h6⟩:=hHR.obj j _ hgl;exact ⟨hK.F0 _ h4,row,t,fr,by rw[Al9 _ h4];exact h5,h7,λ q c hq=>(h6 q c hq).CR Al9 hK.F0⟩
 . rcases Acq i o ho with h2 | ⟨rfl,rfl⟩
   . rcases Acq i' o' NH with h3 | ⟨rfl,rfl⟩
     . rw[hM2 i (Dl i o h2)] at CN;rw[hM2 i' (Dl i' o' h3)] at El;exact Vq.inj i o i' o' b h2 h3 CN El
     . exact El.elim
   . exact CN.elim
 . refine ⟨hK.os,hK.tape,hK.output,hK.size,λ b hb hO=>hK.NA b hb (λ h2=>hO ((Al4 b).2 h2)),hK.F0,λ b hb=>?_,hK.Fl,?_,?_,hsb⟩
   . rcases hK.Fn b hb with h2 | h2 | h2
     . exact .inl h2
     . exact .inr (.inl ((Al4 b).2 h2))
     . exact .inr (.inr h2)
   . rintro b ⟨i,o,ho,CN⟩;rcases Acq i o ho with h2 | ⟨rfl,rfl⟩
     . rw[hM2 i (Dl i o h2)] at CN;rcases hK.own _ ⟨i,o,h2,CN⟩ with h3 | h3
       . exact .inl ((Al4 _).2 h3)
       . exact .inr h3
     . exact CN.elim
   . have G4:=hK.W5;refine ⟨λ i hi=>?_,λ i sz n hi=>?_,λ i sz n kk hi=>?_⟩
     . by_cases e:i=id
       . subst e;exact ⟨by simp[sg,Bbl,AO.sg],by simp[M2]⟩
       . have D7:sg (h++[(id,AO.FY g cs)]) i=some .box:=hi;have T2:sg h i=some .box:=by
           clear hi;unfold sg at D7 ⊢;rw[Hv] at D7;cases hg:get h i with
           | some o=>rw[hg] at D7;exact D7
           | none=>rw[hg] at D7;simp[Ct,get,Be e] at D7
         obtain ⟨h2,h3⟩:=G4.1 i T2;exact ⟨(MO i _ h2).1,by rw[(MO i _ h2).2];exact h3⟩
     . have e:i≠id:=by rintro rfl;simp[sg,hgl,AO.sg] at hi
       have D7:sg (h++[(id,AO.FY g cs)]) i=some (.arr sz n):=hi;have T2:sg h i=some (.arr sz n):=by
         clear hi;unfold sg at D7 ⊢;rw[Hv] at D7;cases hg:get h i with
         | some o=>rw[hg] at D7;exact D7
         | none=>rw[hg] at D7;simp[Ct,get,Be e] at D7
       obtain ⟨n',h2,h3,h4⟩:=G4.2.1 i sz n T2;exact ⟨n',(MO i _ h2).1,h3,λ e2=>by rw[(MO i _ h2).2];exact h4 e2⟩
     . have e:i≠id:=by rintro rfl;simp[sg,hgl,AO.sg] at hi
       have D7:sg (h++[(id,AO.FY g cs)]) i=some (.Dp sz n kk):=hi;have T2:sg h i=some (.Dp sz n kk):=by
         clear hi;unfold sg at D7 ⊢;rw[Hv] at D7;cases hg:get h i with
         | some o=>rw[hg] at D7;exact D7
         | none=>rw[hg] at D7;simp[Ct,get,Be e] at D7
       obtain ⟨n',k',h2,h3,h3',h4,h4'⟩:=G4.2.2 i sz n kk T2;exact ⟨n',k',(MO i _ h2).1,h3,h3',λ e2=>by rw[(MO i _ h2).2];exact h4 e2,λ e2=>by rw[(MO i _ h2).2];exact h4' e2⟩
end Go.Am
namespace Go.Am
open Go Go.ChangeShapes Go.RowKit
section
variable {P:Program} {w:World} {F:Nat->Prop} {M:Nat->Mb} {s:Nat->Option Sg} {m:Mb}
end
section
variable {H:Type} {enc:TypeId×Value->H} {P:Program} {W:World}
end
end Go.Am
namespace Go.Am
open Go Go.ChangeShapes Go.RowKit
section
variable {P:Program}
end
end Go.Am
namespace Go.Am
open Go Go.ChangeShapes Go.RowKit
def Ars(P:Program)(t:TypeId):Bool:=match P.underlying t with
 | some (.struct _)=>true
 | some (.array _ _)=>true
 | _=>false
def Vz{H:Type}(P:Program)(t:TypeId)(d:DataW H):D:=if Ars P t then .agg ((ES d).map .p) else Arp d
section
variable {H:Type} {enc:TypeId×Value->H} {P:Program} {W:World}
theorem Abo{t:TypeId}{v:Value}{d:DataW H}{ps:List MemPlace}{sp:Nat->Bool}{M:Nat->Mb}{s:Nat->Option Sg}(ht:Ev P 30 t=true){bs:Nat}(PZ:Value.okWide P W .any bs t v)
   (h:DataW.Trod enc P W 0 sp true t v d ps):DR (λ b=>b<W.heap.size) W M s (Vz P t d) v:=by
 unfold Vz;split
 . rename_i ha;obtain ⟨fuel,hf⟩:=h;have h1:=Asd (F:=λ b=>b<W.heap.size) (λ _ h=>h) 30 t ht _ _ _ hf;obtain ⟨cs,rfl⟩:∃cs,v= .agg cs:=by
     unfold Ars at ha;unfold Value.okWide Cell.okWide Cell.ok at PZ;cases hu:P.underlying t with
     | none=>rw[hu] at ha;cases ha
     | some u=>
       rw[hu] at ha PZ;cases u<;>simp at ha;all_goals
         cases v with
         | agg cs=>exact ⟨cs,rfl⟩
         | _=>simp at PZ
   refine .agg _ cs (by simpa [Value.cells] using h1.1.symm) λ i c hc=>?_;rw[AQ] at hc;cases hx:(ES d)[i]? with
   | none=>rw[hx] at hc;cases hc
   | some x=>
     rw[hx] at hc;cases hc;have:=h1.2 i x hx;simp only[Value.cells] at this;rw[Ay,Bv] at this;rw[At];exact .p this
 . rename_i ha;refine Ai4 ?_ PZ h;unfold Atl;unfold Ars at ha;rw[ht,Ba];split<;>simp_all
theorem Sl{bs:Nat}{sp:Nat->Bool}{M:Nat->Mb}{s:Nat->Option Sg}:∀{ts:List TypeId} {vs:List Value} {ds:List (DataW H)} {ps:List MemPlace},(ts.all (Ev P 30))=true->
   (∀(j:Nat) t v,ts[j]?=some t->vs[j]?=some v->Value.okWide P W .any bs t v)->DataW.TrodAll enc P W 0 sp true ts vs ds ps->Kq (λ b=>b<W.heap.size) W M s (List.zipWith (Vz P) ts ds) vs
 | [],vs,ds,ps,_,_,h=>by
   obtain ⟨rfl,rfl,_⟩:=trodAll_nil h;exact ⟨rfl,λ i d hd=>by simp at hd⟩
 | t::ts,vs,ds,ps,ht,PZ,h=>by
   obtain ⟨v,vs',d,ZY,p,q,rfl,rfl,_,h1,h2⟩:=trodAll_cons h;simp only[List.all_cons,As] at ht;have h3:=Abo (M:=M) (s:=s) ht.1 (PZ 0 t v rfl rfl) h1;have h4:=Sl (M:=M) (s:=s) ht.2 (λ j t v h5 h6=>PZ (j+1) t v (by simpa using h5) (by simpa using h6)) h2;refine ⟨by simp only[List.zipWith_cons_cons,Al,h4.1],λ i x hx=>?_⟩;cases i with
   | zero=>simp only[List.zipWith_cons_cons,List.getElem?_cons_zero,Option.some.injEq] at hx;subst hx;simpa [List.getD] using h3
   | succ i=>simp only[List.zipWith_cons_cons,List.getElem?_cons_succ] at hx;simpa [List.getD] using h4.2 i x hx
theorem UL{W':World}{sp:Nat->Bool}(hW:∀b,b<W.heap.size->W'.heap[b]?=W.heap[b]?):∀{ts:List TypeId} {vs:List Value} {ds:List (DataW H)} {ps:List MemPlace},(ts.all (Ev P 30))=true->
   DataW.TrodAll enc P W 0 (λ _=>true) true ts vs ds ps->(∀p∈ps,sp p.block=true)->(∀p∈ps,p.block<W.heap.size)->DataW.TrodAll enc P W' 0 sp true ts vs ds ps
 | [],vs,ds,ps,_,h,_,_=>by
   obtain ⟨rfl,rfl,rfl⟩:=trodAll_nil h;exact trodAll_mk0
 | t::ts,vs,ds,ps,ht,h,Iq,Cr=>by
   obtain ⟨v,vs',d,ZY,p,q,rfl,rfl,rfl,⟨n,h1⟩,h2⟩:=trodAll_cons h;simp only[List.all_cons,As] at ht;have h3:=Atk 30 t ht.1 n _ _ h1 (sp:=sp) (λ p hp=>Iq p (by simp[hp]));have h4:=DataW.trod_carry n t _ _ h3 (w':=W') (λ p hp=>by
     have:=hW p.block (Cr p (by simp[hp]));cases p with
     | cell b o=>simp only[MemPlace.block] at this;simp[World.sameAt,World.cell?,this]
     | map b=>exact this)
   exact trodAll_cons_mk ⟨n,h4⟩ (UL hW ht.2 h2 (λ p hp=>Iq p (by simp[hp])) (λ p hp=>Cr p (by simp[hp])))
theorem YB{held:Bool}{W:World}{sp:Nat->Bool}:∀{ts:List TypeId} {vs:List Value} {ds:List (DataW H)} {ps:List MemPlace},(ts.all (Ev P 30))=true->DataW.TrodAll enc P W 0 sp held ts vs ds ps->
   ds.length=ts.length/\∀(i:Nat) t d,ts[i]?=some t->ds[i]?=some d->p0 P 30 t (ES d)
 | [],vs,ds,ps,_,h=>by
   obtain ⟨rfl,rfl,_⟩:=trodAll_nil h;exact ⟨rfl,λ i t d h=>by simp at h⟩
 | t::ts,vs,ds,ps,ht,h=>by
   obtain ⟨v,vs',d,ZY,p,q,rfl,rfl,_,⟨n,h1⟩,h2⟩:=trodAll_cons h;simp only[List.all_cons,As] at ht;obtain ⟨h3,h4⟩:=YB ht.2 h2;refine ⟨by simp[h3],λ i t' d' hi hd=>?_⟩;cases i with
   | zero=>simp only[AK,An] at hi hd;subst hi hd;exact Apm 30 _ ht.1 _ _ _ h1
   | succ i=>simp only[List.getElem?_cons_succ] at hi hd;exact h4 i t' d' hi hd
theorem get_mem{α:Type}:∀{h:List (Nat×α)} {i:Nat} {o:α},get h i=some o->(i,o)∈h
 | [],i,o,h=>by simp[get] at h
 | (k,x)::r,i,o,h=>by
   simp only[get] at h;split at h
   . rename_i e;cases h;subst e;simp
   . exact Bk _ (get_mem h)
theorem Aaj{bs:Nat}{f:FuncId}{fn:Func}{s:ChangeSpec}{args:Array Value}{ds gs:List (DataW H)}{before:List MemPlace}{tb:TypeId}(Aiv:List (Nat×List Pd))
   (IC:∀(j:Nat) t v,fn.params[j]?=some t->args[j]?=some v->Value.okWide P W .any bs t v)
   (hW:DataW.Whole enc P fn.params.toList s.vars false W args.toList ds gs before) (hv:s.vars=[])
   (ht:fn.params.toList.all (Ev P 30)=true) (JT:fn.resultTypes=#[tb]) (htb:P.underlying tb=some .bool)
   (hs:s.fn H ds={results:=[.lit (.bool true)],args:=ds})
   (T5:Enters P f) (hgl:∀x∈Aiv,∀(M:Nat->Mb) s m,VA (λ b=>b<W.heap.size) W M s m (.FY x.1 x.2)) (h:Hp) (hh:h=Aiv.mapIdx λ i x=>(base+i,AO.FY x.1 x.2))
   (hc:B1 P f (List.zipWith (Vz P) fn.params.toList ds) h λ h' r=>r= .p (.bool true)):
   Calls P f args W λ e W'=>∃v,e= .returned v/\s.post enc P fn false true false false W args v W':=by
 have hW0:=hW;obtain ⟨p,q,hA,hV,rfl,hfz,hnd⟩:=hW;rw[hv] at hV;obtain ⟨rfl,rfl⟩:=trodVars_none hV;have Cr:∀x∈p,x.block<W.heap.size:=λ x hx=>hW0.lt x (by simp[hx]);have Cu:∀i o,get h i=some o->base<=i/\∃x∈Aiv,o= .FY x.1 x.2:=by
   intro i o h1;have h2:=get_mem h1;rw[hh,List.mem_mapIdx] at h2;obtain ⟨j,hj,e⟩:=h2;simp only[BV] at e;obtain ⟨rfl,rfl⟩:=e;exact ⟨Nat.le_add_right _ _,_,AM _,rfl⟩
 have N5:∀(M:Nat->Mb) b,¬ET M h b:=by
   rintro M b ⟨i,o,h1,h2⟩;obtain ⟨_,x,_,rfl⟩:=Cu i o h1;exact h2
 have Akz:=(hc args W (λ b=>b<W.heap.size) (λ _=>⟨0,0,[]⟩) ⟨λ id o h=>by obtain ⟨_,x,hx,rfl⟩:=Cu id o h;exact hgl x hx _ _ _,λ id o Pk o' b h _ h2=>by obtain ⟨_,x,_,rfl⟩:=Cu id o h;exact h2.elim⟩ (λ _ h=>h)
   (λ id h1=>by
     unfold sg at h1;cases h2:get h id with
     | none=>rw[h2] at h1;exact (h1 rfl).elim
     | some o=>exact (Cu id o h2).1)
   (Sl ht (λ j t v h1 h2=>IC j t v (by simpa using h1) (by simpa using h2)) hA))
 have OX:=Akz.resolve_right (λ ⟨v,w',h1,_⟩=>by rw[T5] at h1;cases h1);refine OX.2.mono ?_;rintro e W' ⟨v,h',r,F',M',rfl,rfl,_,hd,hk⟩;obtain rfl:v= .bool true:=by cases hd with | p hd=>cases hd;rfl
 have hold:∀b,b<W.heap.size->W'.heap[b]?=W.heap[b]?:=λ b hb=>hk.NA b hb (N5 _ b);refine ⟨_,rfl,ds,[],p++[],[],p,[],by simpa using hW0,?_,?_,?_,Ze hk.os hk.output hold _,λ h=>by cases h⟩
 . rw[List.append_nil,hs,JT];exact trodAll_cons_mk (shut_bool htb _) trodAll_mk0
 . rw[List.append_nil,hs];exact UL hold ht hA (λ x hx=>by simpa using Cr x hx) Cr
 . rw[List.append_nil,hs,hv];rfl
end
end Go.Am
namespace Go.Am
open Go
section
variable {P:Program} {c:Ctx} {st:St} {a:Act} {w w':World} {F:Nat->Prop} {M:Nat->Mb} {s:Nat->Option Sg}
end
end Go.Am
namespace Go.Am
open Go
section
variable {P:Program} {ops rest:List Oper} {k:Kt} {st:St} {o:Oper}
theorem WV{c:Call}{x:Operand}{id t:Nat}{l:List (Pd×Pd)}{kk:KK}{z:Pd}(ho:o.op= .call c)(hc:c.callee= .builtin .len)(ha:c.args=#[x])(ht:c.argTypes=#[t])
   (hm:mapOf P t=some (kk,z)) (hx:ev st x= .mv id) (hg:get st.hp id=some (.mp l)) (h:O P true ops rest k (st.put o.dst (.p (.int .i64 (l.length:Nat))))):Af P true ops rest k o st .fail:=by
 refine H3 λ ct a w F M Q hr=>?_;obtain ⟨kt,e,d,ii,zv,hu,hk,hd,D7,hz,rfl,hzf⟩:=Lx hm;obtain ⟨MR,⟨es,clock,hb,Li⟩,P3⟩:=hr.heap.obj id _ hg;have hv:=Ci hr x;rw[hx] at hv;generalize Mk:a.eval x=v at hv;cases hv with
 | mv _ hs=>
   have hlen:es.size=l.length:=by have:=congrArg List.length Li;simpa using this
   unfold Oper.wp;have hex:(execOp a.eval o).run P w= .ok (.value (.int .i64 (l.length:Nat))) w:=by
     simp[execOp,ho,hc,ha,ht,Mk,resolve,invoke,builtin,Builtin.len_,run_underlying hu,MapKept.run_getObj_map hb,Result.andThen,goInt,hlen]
   rw[hex];exact ⟨_,F,M,h,hr.put (.p (.int _ _)) o.dst⟩
def N1(k:Pd):List (Pd×Pd)->List (Pd×Pd)
 | []=>[]
 | (k',v')::r=>if Pd.same k k'=some true then r else (k',v')::N1 k r
theorem V2{kk:KK}{key:Pd}{d:TypeDesc}(hd:match kk with | .int x=>d= .int x | .str=>d= .string)(hf:kk.fit key=true):
   ∀(es:List MapEntry) (l:List (Pd×Pd)) (n:Nat),es.map (λ e=>(e.key,e.val))=l.map (λ p=>(p.1.val,p.2.val))->Q7 key l->
     (∃v i,Instr.findNow d key.val es n=some (some (n+i,v))/\(es.eraseIdx i).map (λ e=>(e.key,e.val))=(N1 key l).map (λ p=>(p.1.val,p.2.val)))∨
     (Instr.findNow d key.val es n=some none/\N1 key l=l)
 | [],[],n,_,_=> .inr ⟨rfl,rfl⟩
 | [],_::_,n,h,_=>by simp at h
 | _::_,[],n,h,_=>by simp at h
 | e::es,(q,v)::l,n,h,hm=>by
   simp only[AH,List.cons.injEq,BV] at h;obtain ⟨⟨h1,h2⟩,h3⟩:=h;unfold Q7 L3 at hm;cases hs:Pd.same key q with
   | none=>rw[hs] at hm;simp at hm
   | some b=>
     have hn:=Pd.Te hd hf hs;cases b with
     | true=>exact .inl ⟨e.val,0,by simp[Instr.findNow,h1,hn],by simp[N1,hs,h3]⟩
     | false=>
       rw[hs] at hm;rcases V2 hd hf es l (n+1) h3 hm with ⟨v',i,g1,g2⟩ | ⟨g1,g2⟩
       . refine .inl ⟨v',i+1,?_,by simp[N1,hs,h1,h2,g2]⟩;simp only[Instr.findNow,h1,hn,g1];congr 3;omega
       . exact .inr ⟨by simp only[Instr.findNow,h1,hn,g1],by simp[N1,hs,g2]⟩
theorem RG{c:Call}{x y:Operand}{id t t2:Nat}{l:List (Pd×Pd)}{kk:KK}{z key:Pd}(ho:o.op= .call c)(hc:c.callee= .builtin .delete)(ha:c.args=#[x,y])(ht:c.argTypes=#[t,t2])
   (hm:mapOf P t=some (kk,z)) (hx:ev st x= .mv id) (hy:ev st y= .p key) (hf:kk.fit key=true) (hg:get st.hp id=some (.mp l)) (N7:Q7 key l)
   (h:O P true ops rest k (({st with hp:=Cy st.hp id (.mp (N1 key l))}:St).put o.dst (.Dr []))):Af P true ops rest k o st .fail:=by
 refine H3 λ ct a w F M Q hr=>?_;obtain ⟨kt,e,d,ii,zv,hu,hk,hd,D7,hz,rfl,hzf⟩:=Lx hm;obtain ⟨MR,⟨es,clock,hb,Li⟩,P3⟩:=hr.heap.obj id _ hg;have hv:=Ci hr x;rw[hx] at hv;generalize Mk:a.eval x=v at hv;have SA:=Ci hr y;rw[hy] at SA;generalize hvy:a.eval y=v2 at SA;have Cu:∀j,get (Cy st.hp id (.mp (N1 key l))) j=if j=id then some (.mp (N1 key l)) else get st.hp j:=CS _ _ _
 have Hr:=DB Cu hg rfl;cases hv with
 | mv _ hs=>
   cases SA with
   | p hi=>
     have hvi:v2=key.val:=by cases hi<;>first | rfl | (cases kk<;>simp[KK.fit] at hf)
     subst hvi;have hck:∀b,(Instr.checkKey b 10000 kt key.val).run P w= .ok () w:=λ b=>MapKept.run_checkKey hk (Rd hd hf) b 9999;have Aqw:∀p∈N1 key l,p.2.flat=true:=by
       clear Cu Hr Li hg N7 h
       induction l with
       | nil=>intro p hp;simp[N1] at hp
       | cons q r ih=>
         intro p hp;simp only[N1] at hp;split at hp
         . exact P3 p (by simp[hp])
         . rcases AG.1 hp with rfl | hp
           . exact P3 _ (by simp)
           . exact ih (λ p hp=>P3 p (by simp[hp])) p hp
     have hch:∀(N9:Array MapEntry),N9.toList.map (λ e=>(e.key,e.val))=(N1 key l).map (λ p=>(p.1.val,p.2.val))->
         Rel ct {st with hp:=Cy st.hp id (.mp (N1 key l))} a {w with heap:=w.heap.setIfInBounds (M id).DK (.map N9 clock)} F M:=by
       intro N9 h1;have EM:=MapKept.heap_set (o':= .map N9 clock) hb;refine hr.change (M':=M) Cu (λ _ _=>rfl) (by rw[Hr];exact CX.refl _ _) rfl rfl rfl (by simp) (λ b r7 Dl=>EM.2 b (Dl _ hg)) ⟨MR,⟨N9,clock,EM.1,h1⟩,Aqw⟩ (λ b r7=> .inl ⟨_,hg,r7⟩)
     unfold Oper.wp;rcases V2 hd hf es.toList l 0 Li N7 with ⟨v',i,g1,g2⟩ | ⟨g1,g2⟩
     . have hex:(execOp a.eval o).run P w= .ok (.value (.tuple #[])) {w with heap:=w.heap.setIfInBounds (M id).DK (.map (es.eraseIdxIfInBounds i) clock)}:=by
         simp[execOp,ho,hc,ha,ht,Mk,hvy,resolve,invoke,builtin,Builtin.delete_,run_underlying hu,MapKept.run_getObj_map hb,hck,MapKept.run_findKey hk g1,Result.andThen,MapKept.run_setObj_map _ hb]
       rw[hex];exact ⟨_,F,M,h,(hch _ (by rw[Array.toList_eraseIdxIfInBounds];exact g2)).put (.Dr [] #[] rfl (λ i d hd=>by simp at hd)) o.dst⟩
     . have hex:(execOp a.eval o).run P w= .ok (.value (.tuple #[])) {w with heap:=w.heap.setIfInBounds (M id).DK (.map es clock)}:=by
         simp[execOp,ho,hc,ha,ht,Mk,hvy,resolve,invoke,builtin,Builtin.delete_,run_underlying hu,MapKept.run_getObj_map hb,hck,MapKept.run_findKey hk g1,Result.andThen,MapKept.run_setObj_map _ hb]
       rw[hex];exact ⟨_,F,M,h,(hch _ (by rw[g2];exact Li)).put (.Dr [] #[] rfl (λ i d hd=>by simp at hd)) o.dst⟩
end
def Kr(m:List (List UInt8×Int)):List (Pd×Pd):=m.map λ p=>(.str p.1,.int .i64 p.2)
def Eg(m:List (List UInt8×Int))(k:List UInt8):Option Int:=(m.find? λ p=>p.1==k).map (·.2)
def Iz(m:List (List UInt8×Int))(k:List UInt8)(v:Int):List (List UInt8×Int):=match m with
 | []=>[(k,v)]
 | p::r=>if p.1=k then (k,v)::r else p::Iz r k v
theorem Xn(k:List UInt8):∀m,L3 (.str k) (Kr m)=some ((Eg m k).map (.int .i64))
 | []=>rfl
 | p::r=>by
   have ih:=Xn k r;simp only[Kr,AH,L3,Pd.same,Eg,List.find?_cons] at ih ⊢;by_cases h:p.1=k
   . simp[h]
   . have h1:(k==p.1)=false:=by simpa using Ne.symm h
     have h2:(p.1==k)=false:=by simpa using h
     rw[h1,h2];exact ih
theorem DI(k:List UInt8)(m):Q7 (.str k) (Kr m):=by unfold Q7;rw[Xn];rfl
theorem DW(k:List UInt8)(m):TC (.str k) (Kr m)=(Eg m k).map (.int .i64):=by unfold TC;rw[Xn];rfl
theorem TB(k:List UInt8)(v:Int):∀m,KJ (.str k) (.int .i64 v) (Kr m)=Kr (Iz m k v)
 | []=>rfl
 | p::r=>by
   have ih:=TB k v r;simp only[Kr] at ih;simp only[Kr,AH,KJ,Pd.same,Iz];by_cases h:p.1=k
   . simp[h]
   . have h1:(k==p.1)=false:=by simpa using Ne.symm h
     simp[h1,h,ih]
theorem Aah(m)(k:List UInt8)(z:Int)(ok:Bool):EI (.int .i64 z) ok ((Eg m k).map (.int .i64))=if ok then .Dr [.p (.int .i64 ((Eg m k).getD z)),.p (.bool (Eg m k).isSome)] else .p (.int .i64 ((Eg m k).getD z)):=by
 unfold EI;cases Eg m k<;>rfl
theorem Ace(m):(Kr m).length=m.length:=by simp[Kr]
theorem Xk:Kr []=[]:=rfl
def Xm(m:List (Int×Bool)):List (Pd×Pd):=m.map λ p=>(.int .i64 p.1,.bool p.2)
def I4(m:List (Int×Bool))(k:Int):Option Bool:=(m.find? λ p=>p.1==k).map (·.2)
def QZ(m:List (Int×Bool))(k:Int)(v:Bool):List (Int×Bool):=match m with
 | []=>[(k,v)]
 | p::r=>if p.1=k then (k,v)::r else p::QZ r k v
def Mj(m:List (Int×Bool))(k:Int):List (Int×Bool):=match m with
 | []=>[]
 | p::r=>if p.1=k then r else p::Mj r k
theorem Xo(k:Int):∀m,L3 (.int .i64 k) (Xm m)=some ((I4 m k).map .bool)
 | []=>rfl
 | p::r=>by
   have ih:=Xo k r;simp only[Xm,AH,L3,Pd.same,I4,List.find?_cons] at ih ⊢;by_cases h:p.1=k
   . simp[h]
   . have h1:(k==p.1)=false:=by simpa using Ne.symm h
     have h2:(p.1==k)=false:=by simpa using h
     simp only[h1,h2,AP];exact ih
theorem TD(k:Int)(m):Q7 (.int .i64 k) (Xm m):=by unfold Q7;rw[Xo];rfl
theorem Akc(k:Int)(m):TC (.int .i64 k) (Xm m)=(I4 m k).map .bool:=by unfold TC;rw[Xo];rfl
theorem Aad(k:Int)(v:Bool):∀m,KJ (.int .i64 k) (.bool v) (Xm m)=Xm (QZ m k v)
 | []=>rfl
 | p::r=>by
   have ih:=Aad k v r;simp only[Xm] at ih;simp only[Xm,AH,KJ,Pd.same,QZ];by_cases h:p.1=k
   . simp[h]
   . have h1:(k==p.1)=false:=by simpa using Ne.symm h
     simp[h1,h,ih]
theorem Aae(k:Int):∀m,N1 (.int .i64 k) (Xm m)=Xm (Mj m k)
 | []=>rfl
 | p::r=>by
   have ih:=Aae k r;simp only[Xm] at ih;simp only[Xm,AH,N1,Pd.same,Mj];by_cases h:p.1=k
   . simp[h]
   . have h1:(k==p.1)=false:=by simpa using Ne.symm h
     simp[h1,h,ih]
theorem Akg(m)(k:Int)(z:Bool)(ok:Bool):EI (.bool z) ok ((I4 m k).map .bool)=if ok then .Dr [.p (.bool ((I4 m k).getD z)),.p (.bool (I4 m k).isSome)] else .p (.bool ((I4 m k).getD z)):=by
 unfold EI;cases I4 m k<;>rfl
theorem Acf(m):(Xm m).length=m.length:=by simp[Xm]
theorem Xl:Xm []=[]:=rfl
attribute [go_sem] LA Kf KK.fit Pd.flat DI DW TB Aah Ace TD Akc Aad Aae Akg Acf
end Go.Am
namespace Go.Am
open Go
def Aow(r:D):Prop:=r= .Dr []∨∃y,r= .p y
theorem Aow.dr{F:Nat->Prop}{w:World}{M M':Nat->Mb}{s s':Nat->Option Sg}{r:D}{v:Value}(h:Aow r)(hd:DR F w M s r v):DR F w M' s' r v:=by
 rcases h with rfl | ⟨y,rfl⟩
 . cases hd with | Dr _ vs hl hc=>exact .Dr [] vs hl (λ i c hi=>by simp at hi)
 . cases hd with | p hx=>exact .p hx
theorem US{P:Program}{f:FuncId}{ps:List Pd}{t e:TypeId}{sz k i n:Nat}{rows:List (List (List Pd))}{es:List (List Pd)}{R:Hp->D->Prop}{R':List (List Pd)->D->Prop}
   (hi:rows[i]?=some es) (hn:n=es.length) (hc:B1 P f (.ref 1000000 0 n n::ps.map D.p) [(1000000,.arr e sz es)] R)
   (hR:∀h' r,R h' r->∃N9,h'=[(1000000,.arr e sz N9)]/\N9.length=n/\Aow r/\R' N9 r):
   B1 P f (.nr 1000000 i n k::ps.map D.p) [(1000000,.Dp t e sz k rows none)] λ h' r=>∃N9,h'=[(1000000,.Dp t e sz k (rows.set i N9) none)]/\N9.length=n/\R' N9 r:=by
 subst hn;intro vs w F M hHR hFl hsb hd;have hg:get [(1000000,AO.Dp t e sz k rows none)] 1000000=some (.Dp t e sz k rows none):=rfl;have hN:H2 F w (M 1000000) t e sz rows none:=hHR.obj 1000000 _ hg;have Cr:i<rows.length:=(Ao.1 hi).1;obtain ⟨bc,r6⟩:∃bc,(M 1000000).xs[i]?=some bc:=⟨_,Az (by rw[hN.xl];exact Cr)⟩;obtain ⟨M1,hM1⟩:∃M1:Nat->Mb,M1=λ _=>⟨bc.1,bc.2,[]⟩:=⟨_,rfl⟩;have Afd:∀j,M1 j=⟨bc.1,bc.2,[]⟩:=λ j=>by rw[hM1]
 have Auz:UR F w ⟨bc.1,bc.2,[]⟩ e sz es:=hN.rows i es bc hi r6 (by simp);have KU:∀{o:AO} {j:Nat} {o2:AO},get [(1000000,o)] j=some o2->j=1000000/\o2=o:=λ {o j o2} h=>by
   simp only[Ct] at h;split at h
   . rename_i e1;cases h;exact ⟨e1.symm,rfl⟩
   . cases h
 have Alj:HR F w M1 [(1000000,.arr e sz es)]:=by
   refine ⟨λ j o hj=>?_,λ j o j' o' b hj Hc _ _=>?_⟩
   . obtain ⟨rfl,rfl⟩:=KU hj;rw[Afd];exact Auz
   . rw[(KU hj).1,(KU Hc).1]
 have hd0:DR F w M (sg [(1000000,.Dp t e sz k rows none)]) (.nr 1000000 i es.length k) (vs.toList.getD 0 undef):=hd.2 0 _ rfl;have N8:Kq F w M1 (sg [(1000000,.arr e sz es)]) (.ref 1000000 0 es.length es.length::ps.map D.p) vs.toList:=by
   refine ⟨by have:=hd.1;simpa using this,λ j d hj=>?_⟩;cases j with
   | zero=>
     simp only[AK,An] at hj;subst hj;generalize vs.toList.getD 0 undef=v at hd0;cases hd0 with
     | nr _ _ _ _ Su m k3 _ OR hN2 hv hl=>
       have p6:sg [(1000000,AO.Dp t e sz k rows none)] 1000000=some (.Dp sz rows.length k):=rfl;rw[OR] at p6;simp only[An,Sg.Dp.injEq] at p6;obtain ⟨_,_,rfl⟩:=p6;obtain ⟨bc2,g1,g2,ad,g3,g4⟩:=hl rfl;rw[r6] at g1;cases g1;exact .ref 1000000 0 _ _ sz es.length _ rfl (Ai _) ⟨_,_,_,g3⟩ (λ _=>⟨ad,bc.2,g3,by omega,g2,by rw[Afd];simp,by rw[Afd];simpa using g4⟩)
   | succ j=>
     have h2:=hd.2 (j+1) d (by simpa using hj);simp only[List.getElem?_cons_succ,AQ] at hj;cases hp:ps[j]? with
     | none=>rw[hp] at hj;cases hj
     | some p=>
       rw[hp] at hj;simp only[Bm,An] at hj;subst hj;cases h2 with | p hx=>exact .p hx
 have Bb2:∀id,sg [(1000000,AO.arr e sz es)] id≠none->base<=id:=by
   intro id hs;refine hsb id ?_;unfold sg at hs ⊢;simp only[Ct] at hs ⊢;split
   . simp
   . rename_i h1;rw[if_neg h1] at hs;exact hs
 refine (hc vs w F M1 Alj hFl Bb2 N8).mono λ ed w' hh=>?_;obtain ⟨v,h',r,F',M',he,hr,Vq,Ol,hk⟩:=hh;obtain ⟨N9,rfl,hlen,hp,hR2⟩:=hR h' r hr;have IF:M' 1000000=⟨bc.1,bc.2,[]⟩:=by
   obtain ⟨n',g1,g2,g3⟩:=hk.W5.2.1 1000000 sz es.length rfl;have:n'=N9.length:=by
     have:sg [(1000000,AO.arr e sz N9)] 1000000=some (.arr sz N9.length):=rfl;rw[this] at g1;simp only[An,Sg.arr.injEq] at g1;exact g1.2.symm
   rw[g3 (by omega)];exact Afd _
 have Ay2:UR F' w' ⟨bc.1,bc.2,[]⟩ e sz N9:=by have:=Vq.obj 1000000 _ rfl;rw[IF] at this;exact this
 have Att:∀b,ET M1 [(1000000,AO.arr e sz es)] b↔bc.2≠0/\b=bc.1:=by
   intro b;constructor
   . rintro ⟨j,o,h1,h2⟩;obtain ⟨rfl,rfl⟩:=KU h1;rw[Afd] at h2;exact h2
   . intro h;exact ⟨1000000,_,rfl,by rw[Afd];exact h⟩
 have Awo:∀b,ET M [(1000000,AO.Dp t e sz k rows none)] b↔DD (M 1000000) b:=by
   intro b;constructor
   . rintro ⟨j,o,h1,h2⟩;obtain ⟨rfl,rfl⟩:=KU h1;exact h2
   . intro h;exact ⟨1000000,_,rfl,h⟩
 have Awn:∀b,ET M [(1000000,AO.Dp t e sz k (rows.set i N9) none)] b↔DD (M 1000000) b:=by
   intro b;constructor
   . rintro ⟨j,o,h1,h2⟩;obtain ⟨rfl,rfl⟩:=KU h1;exact h2
   . intro h;exact ⟨1000000,_,rfl,h⟩
 have other:∀b,DD (M 1000000) b->¬(bc.2≠0/\b=bc.1)->w'.heap[b]?=w.heap[b]?/\¬F' b:=by
   intro b h1 h2;have XB:b<w.heap.size:=hN.lt h1;refine ⟨hk.NA b XB (λ h3=>h2 ((Att b).1 h3)),λ h3=>?_⟩;rcases hk.Fn b h3 with h4 | h4 | h4
   all_goals first
     | exact hN.JA h1 h4
     | exact h2 ((Att b).1 h4)
     | exact absurd XB (Nat.not_lt.2 h4)
 have Ajf:∀{j r'},(rows.set i N9)[j]?=some r'->(i=j/\r'=N9)∨(i≠j/\rows[j]?=some r'):=by
   intro j r' h;by_cases e:i=j
   . subst e;rw[Bw Cr] at h;exact .inl ⟨rfl,(Ac h).symm⟩
   . rw[List.getElem?_set_ne e] at h;exact .inr ⟨e,h⟩
 have hN':H2 F' w' (M 1000000) t e sz (rows.set i N9) none:=by
   refine ⟨hN.pos,by simpa using hN.xl,by simpa using hN.le,hN.max,λ Mg=>?_,λ j r' b' h1 h2 h3=>?_,λ j b' h1 _=>(by cases h1),hN.dis,hN.out⟩
   . obtain ⟨g1,row,g2,g3,g4⟩:=hN.outer Mg;obtain ⟨g5,g6⟩:=other (M 1000000).DK (.inl ⟨Mg,rfl⟩) (λ h=>hN.out i bc r6 h.1 Mg h.2.symm);refine ⟨g6,row,by rw[g5];exact g2,g3,λ j r' b' h1 h2 h3=>?_⟩;rcases Ajf h1 with ⟨rfl,rfl⟩ | ⟨_,h4⟩
     . rw[hlen];exact g4 i es b' hi h2 (by simp)
     . exact g4 j r' b' h4 h2 (by simp)
   . rcases Ajf h1 with ⟨rfl,rfl⟩ | ⟨Dl,h4⟩
     . rw[r6] at h2;cases h2;exact Ay2
     . refine (hN.rows j r' b' h4 h2 (by simp)).CR (λ b hb=>hk.NA b (hFl b hb) (λ h=>Alj.JA h hb)) hk.F0 (λ R5=>other b'.1 (.inr ⟨j,b',h2,R5,rfl⟩) (λ h=>hN.dis i j bc b' r6 h2 Dl h.1 R5 h.2.symm))
 refine ⟨v,_,r,F',M,he,⟨N9,rfl,hlen,hR2⟩,⟨λ j o hj=>?_,λ j o j' o' b hj Hc _ _=>?_⟩,hp.dr Ol,?_⟩
 . obtain ⟨rfl,rfl⟩:=KU hj;exact hN'
 . rw[(KU hj).1,(KU Hc).1]
 . have Ml:∀b,ET M1 [(1000000,AO.arr e sz es)] b->ET M [(1000000,AO.Dp t e sz k rows none)] b:=λ b hb=>(Awo b).2 (.inr ⟨i,bc,r6,(Att b).1 hb⟩);refine ⟨hk.os,hk.tape,hk.output,hk.size,λ b h1 h2=>hk.NA b h1 (λ h3=>h2 (Ml b h3)),hk.F0,λ b hb=>?_,hk.Fl,λ b hb=> .inl ((Awo b).2 ((Awn b).1 hb)),?_,hsb⟩
   . rcases hk.Fn b hb with h4 | h4 | h4
     . exact .inl h4
     . exact .inr (.inl (Ml b h4))
     . exact .inr (.inr h4)
   . have:sg [(1000000,AO.Dp t e sz k (rows.set i N9) none)]=sg [(1000000,AO.Dp t e sz k rows none)]:=by
       funext j
       unfold sg;simp only[Ct];split<;>simp[AO.sg]
     show CX M M (sg [(1000000,AO.Dp t e sz k rows none)]) (sg [(1000000,AO.Dp t e sz k (rows.set i N9) none)])
     rw[this];exact CX.refl _ _
end Go.Am
namespace Go.Am
open Go
section
variable {P:Program} {c:Ctx} {st:St} {a:Act} {w:World} {F:Nat->Prop} {M:Nat->Mb}
theorem Rel.Atx(hr:Rel c st a w F M){q cap sz l:Nat}{vs:Array Value}{e e2:TypeId}{w':World}(hn:get st.hp q=none)
   (hw:w'.heap=(w.alloc (.cells vs e)).heap) (hos:w'.os=w.os) (PV:w'.tape=w.tape) (Rj:w'.output=w.output)
   (EZ:0<sz) (hc:l<=cap) (hm:cap<=maxLen) (hv:vs.size=cap) (hp:∀j,j<l->∃ad,vs.getD j undef= .slice ad 0 0):
   Rel c {st with hp:=(q,.Dp e e2 sz 0 (List.replicate l []) none)::st.hp} a w' F (Fc M q ⟨w.heap.size,cap,List.replicate l (0,0)⟩)/\
   DR F w' (Fc M q ⟨w.heap.size,cap,List.replicate l (0,0)⟩) (sg ((q,.Dp e e2 sz 0 (List.replicate l []) none)::st.hp)) (.Dt q l) (.slice (some ⟨w.heap.size,0,none⟩) l cap):=by
 have Cu:=J3 st.hp q (.Dp e e2 sz 0 (List.replicate l []) none);have hM:∀j,j≠q->Fc M q ⟨w.heap.size,cap,List.replicate l (0,0)⟩ j=M j:=λ j hj=>by simp[Fc,hj]
 have IF:Fc M q ⟨w.heap.size,cap,List.replicate l (0,0)⟩ q=⟨w.heap.size,cap,List.replicate l (0,0)⟩:=by simp[Fc]
 have G4:=F3 Cu hM hn;have hold:∀b,b<w.heap.size->w'.heap[b]?=w.heap[b]?:=λ b hb=>by rw[hw];exact alloc_old w _ b hb
 have hs:sg ((q,.Dp e e2 sz 0 (List.replicate l []) none)::st.hp) q=some (.Dp sz l 0):=by rw[C7 Cu];simp[AO.sg]
 have hx:∀(i:Nat) bc,(List.replicate l ((0,0):Nat×Nat))[i]?=some bc->bc=(0,0):=λ i bc h=>by
   rw[A7] at h;split at h<;>cases h;rfl
 have hrw:∀(i:Nat) r,(List.replicate l ([]:List (List Pd)))[i]?=some r->r=[]/\i<l:=λ i r h=>by
   rw[A7] at h;split at h<;>cases h;rename_i h1;exact ⟨rfl,h1⟩
 have CN:∀b,DD ⟨w.heap.size,cap,List.replicate l (0,0)⟩ b->b=w.heap.size:=λ b h=>by
   rcases h with ⟨_,h⟩ | ⟨i,bc,h1,h2,_⟩
   . exact h
   . rw[hx i bc h1] at h2;exact (h2 rfl).elim
 refine ⟨hr.change Cu hM G4 hos PV Rj (by rw[hw];simp) (λ b hb _=>hold b hb) ?_ (λ b hb=> .inr (by rw[IF] at hb;rw[CN b hb];exact Ai _)),?_⟩
 . rw[IF];refine ⟨EZ,by simp,by simpa using hc,hm,λ _=>⟨λ hF=>Nat.lt_irrefl _ (hr.CR.Fl _ hF),vs,by rw[hw];exact heap_alloc_new w _,hv,λ i r bc h1 h2 _=>?_⟩,λ i r bc h1 h2 _=>?_,λ i bc h1 _=>(by cases h1),λ i j bi bj h1 _ _ h2 _=>?_,λ i bi h1 h2 _=>?_⟩
   . obtain ⟨rfl,I3⟩:=hrw i r h1;obtain rfl:=hx i bc h2;obtain ⟨ad,h3⟩:=hp i I3;exact ⟨ad,h3,.inl rfl⟩
   . obtain ⟨rfl,I3⟩:=hrw i r h1;obtain rfl:=hx i bc h2;exact ⟨EZ,by simp,by simp,by simp,λ h=>(h rfl).elim⟩
   . rw[hx i bi h1] at h2;exact (h2 rfl).elim
   . rw[hx i bi h1] at h2;exact (h2 rfl).elim
 . exact .Dt q l sz l 0 _ hs (Ai _) ⟨_,_,rfl,.inr ⟨_,rfl⟩⟩ (λ _=>⟨_,cap,rfl,by omega,hc,by simp[IF],.inr (by simp[IF])⟩)
theorem Rel.Y3(hr:Rel c st a w F M){q sz:Nat}{e e2:TypeId}(hn:get st.hp q=none)(EZ:0<sz):
   Rel c {st with hp:=(q,.Dp e e2 sz 0 [] none)::st.hp} a w F (Fc M q ⟨0,0,[]⟩)/\∀ad,DR F w (Fc M q ⟨0,0,[]⟩) (sg ((q,.Dp e e2 sz 0 [] none)::st.hp)) (.Dt q 0) (.slice ad 0 0):=by
 have Cu:=J3 st.hp q (.Dp e e2 sz 0 [] none);have hM:∀j,j≠q->Fc M q ⟨0,0,[]⟩ j=M j:=λ j hj=>by simp[Fc,hj]
 have IF:Fc M q ⟨0,0,[]⟩ q=⟨0,0,[]⟩:=by simp[Fc]
 have G4:=F3 Cu hM hn;have N5:∀b,¬DD ⟨0,0,[]⟩ b:=λ b h=>by
   rcases h with ⟨h,_⟩ | ⟨i,bc,h1,_⟩
   . exact h rfl
   . simp at h1
 refine ⟨hr.change Cu hM G4 rfl rfl rfl (Ai _) (λ b hb _=>rfl) ?_ (λ b h=>?_),λ ad=>?_⟩
 . rw[IF];exact ⟨EZ,rfl,by simp,by simp,λ h=>(h rfl).elim,λ i r bc h=>by simp at h,λ i bc h=>(by cases h),λ i j bi bj h=>by simp at h,λ i bi h=>by simp at h⟩
 . rw[IF] at h;exact (N5 b h).elim
 . exact .Dt q 0 sz 0 0 _ (by rw[C7 Cu];simp[AO.sg]) (Ai _) ⟨_,_,rfl,.inl rfl⟩ (λ _=>⟨ad,0,rfl,by omega,by omega,by rw[IF],.inl rfl⟩)
def Tx(e:TypeId):Ary where
 sg:= .arr 1 1
 holds:=λ F w m=>¬F m.DK/\m.cap=1/\∃ad,w.heap[m.DK]?=some (.cells #[.slice ad 0 0] e (0,0))
 Gm:=λ m b=>b=m.DK
 CR:=λ h hw hF ho=>by
   obtain ⟨h1,h2,ad,h3⟩:=h;obtain ⟨h4,h5⟩:=ho _ rfl;exact ⟨h5,h2,ad,by rw[h4];exact h3⟩
 JA:=λ h hb=>by cases hb;exact h.1
 lt:=λ h hb=>by
   cases hb;obtain ⟨h1,h2,ad,h3⟩:=h;exact (Bh.1 h3).1
 Av2:=λ h _ h2=>by
   obtain ⟨h1,h3,ad,h4⟩:=h;exact ⟨h1,h3,ad,by rw[h2 _ h1];exact h4⟩
theorem Rel.Aqa(hr:Rel c st a w F M){q:Nat}{e:TypeId}{ad:Option Addr}(hn:get st.hp q=none):
   Rel c {st with hp:=(q,.Fi (Tx e))::st.hp} a (w.alloc (.cells #[.slice ad 0 0] e)) F (Fc M q ⟨w.heap.size,1,[]⟩)/\
   DR F (w.alloc (.cells #[.slice ad 0 0] e)) (Fc M q ⟨w.heap.size,1,[]⟩) (sg ((q,.Fi (Tx e))::st.hp)) (.ref q 0 1 1) (.slice (some ⟨w.heap.size,0,none⟩) 1 1):=by
 have Cu:=J3 st.hp q (.Fi (Tx e));have hM:∀j,j≠q->Fc M q ⟨w.heap.size,1,[]⟩ j=M j:=λ j hj=>by simp[Fc,hj]
 have IF:Fc M q ⟨w.heap.size,1,[]⟩ q=⟨w.heap.size,1,[]⟩:=by simp[Fc]
 have G4:=F3 Cu hM hn;refine ⟨hr.change Cu hM G4 rfl rfl rfl (by simp) (λ b hb _=>alloc_old w _ b hb) ?_ (λ b hb=> .inr (by have:b=_:=hb;rw[this,IF];exact Ai _)),?_⟩
 . rw[IF];exact ⟨λ hF=>Nat.lt_irrefl _ (hr.CR.Fl _ hF),rfl,ad,heap_alloc_new w _⟩
 . exact .ref q 0 1 1 1 1 _ (by rw[C7 Cu,if_pos rfl];rfl) (Ai _) ⟨_,_,_,rfl⟩ (λ _=>⟨_,1,rfl,by omega,by omega,by rw[IF],.inr (by rw[IF])⟩)
theorem Rel.Avf(hr:Rel c st a w F M){id q2 t t2 ty e e2 e3:TypeId}{u2:TypeDesc}{i:TypeInfo}{z:Value}{sz k N:Nat}{rows:List (List (List Pd))}{vs vx:Value}
   (hg:get st.hp id=some (.Dp e e2 sz k rows none)) (hN0:N=rows.length) (hv:DR F w M (sg st.hp) (.Dt id N) vs) (hq:get st.hp q2=some (.Fi (Tx e3))) (hx:DR F w M (sg st.hp) (.ref q2 0 1 1) vx)
   (Ff:P.underlying t=some (.slice e)) (LF:P.underlying t2=some u2) (Rl:∀k,u2≠ .int k) (hi:P.info? e=some i) (hz:i.zero=some z) (EZ:i.size=1) (hzs:z.cells.size=1)
   (hle:N+1<=140737488355328) (hby:(N+1)*i.bytes<=140737488355328):
   ∃v w' M',Rel c {st with hp:=Cy st.hp id (.Dp e e2 sz (k+1) (rows++[[]]) none)} a w' F M'/\DR F w' M' (sg (Cy st.hp id (.Dp e e2 sz (k+1) (rows++[[]]) none))) (.Dt id (N+1)) v/\
     (Builtin.append_ #[t,t2] ty #[vs,vx]).run P w= .ok v w':=by
 subst hN0;have hn:H2 F w (M id) e e2 sz rows none:=hr.heap.obj id _ hg;obtain ⟨hqF,hqc,adn,hqh⟩:¬F (M q2).DK/\(M q2).cap=1/\∃ad,w.heap[(M q2).DK]?=some (.cells #[.slice ad 0 0] e3 (0,0)):=hr.heap.obj q2 _ hq;have Zp:q2≠id:=λ e=>by rw[e,hg] at hq;cases hq
 obtain ⟨cap,ad,rfl,h5,h6,h7,h8⟩:∃cap ad,vs= .slice ad rows.length cap/\0+rows.length<=rows.length/\rows.length<=cap/\0+cap=(M id).cap/\(cap=0∨ad=some ⟨(M id).DK,0*1,none⟩):=by
   cases hv with
   | Dt _ _ sz1 m1 k1 _ hs hN SA h2=>
     rw[C2 hg] at hs;simp only[AO.sg,An,Sg.Dp.injEq] at hs;obtain ⟨rfl,rfl,rfl⟩:=hs;obtain ⟨ad,cap,h3,h4⟩:=h2 rfl;exact ⟨cap,ad,h3,h4⟩
 simp only[Bi] at h7;subst h7;have Mk:vx= .slice (some ⟨(M q2).DK,0,none⟩) 1 1:=by
   cases hx with
   | ref _ _ _ _ sz1 n1 _ hs hN SA h2=>
     rw[C2 hq] at hs;simp only[AO.sg,Tx,An,Sg.arr.injEq] at hs;obtain ⟨rfl,rfl⟩:=hs;obtain ⟨ad2,cap2,rfl,g1,g2,g3,g4⟩:=h2 rfl;rw[Bi,hqc] at g3;subst g3;rcases g4 with g4 | g4
     . cases g4
     . rw[g4]
 subst Mk;have Acp:∀w1:World,(Builtin.lenOf (.slice (some ⟨(M q2).DK,0,none⟩) 1 1)).run P w1= .ok 1 w1:=λ w1=>by simp[Builtin.lenOf]
 have hf1:∀w1:World,w1.heap=w.heap->(Builtin.firstCells i.size 1 (.slice (some ⟨(M q2).DK,0,none⟩) 1 1)).run P w1= .ok #[.slice adn 0 0] w1:=λ w1 h1=>by
   have:=run_firstCells_some (P:=P) w1 i.size 1 ⟨(M q2).DK,0,none⟩ 1 1 [.slice adn 0 0] (by simp[EZ]) (λ j v hj=>by
     cases j with
     | zero=>
       simp only[AK,An] at hj;subst hj;rw[Addr.add_lit,cell_of_row w1 (M q2).DK (0+0) #[.slice adn 0 0] e3 (0,0) (by rw[h1];exact hqh)];rfl
     | succ j=>simp at hj)
   simpa using this
 have Cu:∀j,get (Cy st.hp id (.Dp e e2 sz (k+1) (rows++[[]]) none)) j=if j=id then some (.Dp e e2 sz (k+1) (rows++[[]]) none) else get st.hp j:=CS _ _ _
 have Xy:sg (Cy st.hp id (.Dp e e2 sz (k+1) (rows++[[]]) none)) id=some (.Dp sz (rows.length+1) (k+1)):=by rw[C7 Cu];simp[AO.sg]
 have G4:∀mb,CX M (Fc M id mb) (sg st.hp) (sg (Cy st.hp id (.Dp e e2 sz (k+1) (rows++[[]]) none))):=by
   intro mb;have hM:∀j,j≠id->Fc M id mb j=M j:=λ j hj=>by simp[Fc,hj]
   refine ⟨λ j hj=>?_,λ j s2 n2 hj=>?_,λ j s2 n2 k2 hj=>?_⟩
   . have e2:j≠id:=λ e2=>by rw[e2,C2 hg] at hj;simp[AO.sg] at hj
     rw[C7 Cu,if_neg e2,hM j e2];exact ⟨hj,rfl⟩
   . have e2:j≠id:=λ e2=>by rw[e2,C2 hg] at hj;simp[AO.sg] at hj
     rw[C7 Cu,if_neg e2,hM j e2];exact ⟨n2,hj,Ai _,λ _=>rfl⟩
   . by_cases e2:j=id
     . subst e2;rw[C2 hg] at hj;simp only[AO.sg,An,Sg.Dp.injEq] at hj;obtain ⟨rfl,rfl,rfl⟩:=hj;exact ⟨_,_,Xy,by omega,by omega,λ h=>by omega,λ h=>by omega⟩
     . rw[C7 Cu,if_neg e2,hM j e2];exact ⟨n2,k2,hj,Ai _,Ai _,λ _=>⟨rfl,rfl⟩,λ _=>rfl⟩
 have Iv:∀{j:Nat} {b:Nat×Nat},((M id).xs++[(0,0)])[j]?=some b->(M id).xs[j]?=some b∨(j=rows.length/\b=(0,0)):=by
   intro j b h;rw[AN] at h;split at h
   . exact .inl h
   . rename_i h1;rw[hn.xl] at h1 h;cases hj:j - rows.length with
     | zero=>
       rw[hj] at h;simp only[AK,An] at h;exact .inr ⟨by omega,h.symm⟩
     | succ m=>rw[hj] at h;simp at h
 have hrs:∀{j:Nat} {r:List (List Pd)},(rows++[[]])[j]?=some r->(rows[j]?=some r/\j<rows.length)∨(j=rows.length/\r=[]):=by
   intro j r h;rw[AN] at h;split at h
   . rename_i h1;exact .inl ⟨h,h1⟩
   . rename_i h1;cases hj:j - rows.length with
     | zero=>
       rw[hj] at h;simp only[AK,An] at h;exact .inr ⟨by omega,h.symm⟩
     | succ m=>rw[hj] at h;simp at h
 have mk:∀{w':World} {b cp:Nat},(∀b,F b->w'.heap[b]?=w.heap[b]?)->(∀(j:Nat) bc,(M id).xs[j]?=some bc->bc.2≠0->w'.heap[bc.1]?=w.heap[bc.1]?)->(∀(j:Nat) bc,(M id).xs[j]?=some bc->bc.2≠0->cp≠0->bc.1≠b)->
     rows.length+1<=cp->cp<=maxLen->¬F b->(∃row,w'.heap[b]?=some (.cells row e (0,0))/\row.size=cp/\(∀(j:Nat) r bc,rows[j]?=some r->(M id).xs[j]?=some bc->∃a,row.getD j undef= .slice a r.length bc.2/\(bc.2=0∨a=some ⟨bc.1,0,none⟩))/\∃a,row.getD rows.length undef= .slice a 0 0)->
     H2 F w' ⟨b,cp,(M id).xs++[(0,0)]⟩ e e2 sz (rows++[[]]) none:=by
   intro w' b cp hF hxo hxb hl hm MR ⟨row,g1,g2,g3,g4⟩;refine ⟨hn.pos,by simp[hn.xl],by simpa using hl,hm,λ _=>⟨MR,row,g1,g2,λ j r bc h1 h2 _=>?_⟩,λ j r bc h1 h2 _=>?_,λ j bc h1 _=>(by cases h1),λ j1 j2 b1 b2 h1 h2 h3 h4 h5=>?_,λ j bi h1 h2 h3=>?_⟩
   . rcases hrs h1 with ⟨h3,h4⟩ | ⟨rfl,rfl⟩
     . rcases Iv h2 with h5 | ⟨rfl,_⟩
       . exact g3 j r bc h3 h5
       . omega
     . rcases Iv h2 with h5 | ⟨_,rfl⟩
       . have:=(Ao.1 h5).1;rw[hn.xl] at this;omega
       . obtain ⟨a,h6⟩:=g4;exact ⟨a,h6,.inl rfl⟩
   . rcases hrs h1 with ⟨h3,h4⟩ | ⟨rfl,rfl⟩
     . rcases Iv h2 with h5 | ⟨rfl,_⟩
       . exact (hn.rows j r bc h3 h5 (by simp)).CR hF (λ _ h=>h) (λ hc=>⟨hxo j bc h5 hc,hn.JA (.inr ⟨j,bc,h5,hc,rfl⟩)⟩)
       . omega
     . rcases Iv h2 with h5 | ⟨_,rfl⟩
       . have:=(Ao.1 h5).1;rw[hn.xl] at this;omega
       . exact ⟨hn.pos,by simp,by simp,by simp,λ h=>(h rfl).elim⟩
   . rcases Iv h1 with h6 | ⟨_,rfl⟩
     . rcases Iv h2 with h7 | ⟨_,rfl⟩
       . exact hn.dis j1 j2 b1 b2 h6 h7 h3 h4 h5
       . exact (h5 rfl).elim
     . exact (h4 rfl).elim
   . rcases Iv h1 with h6 | ⟨_,rfl⟩
     . exact hxb j bi h6 h2 h3
     . exact (h2 rfl).elim
 have Ol:∀{w':World} {b cp:Nat} {ad:Option Addr},rows.length+1<=cp->ad=some ⟨b,0,none⟩->DR F w' (Fc M id ⟨b,cp,(M id).xs++[(0,0)]⟩) (sg (Cy st.hp id (.Dp e e2 sz (k+1) (rows++[[]]) none))) (.Dt id (rows.length+1)) (.slice ad (rows.length+1) cp):=by
   intro w' b cp ad h1 h2;exact .Dt id _ sz (rows.length+1) (k+1) _ Xy (Ai _) ⟨_,_,rfl,.inr ⟨_,h2⟩⟩ (λ _=>⟨ad,cp,rfl,by omega,h1,by simp[Fc],.inr (by simp[Fc,h2])⟩)
 have Kj:∀mb,Fc M id mb id=mb:=λ mb=>by simp[Fc]
 have On:∀mb j,j≠id->Fc M id mb j=M j:=λ mb j hj=>by simp[Fc,hj]
 have Ast:∀{b' cp b:Nat},DD ⟨b',cp,(M id).xs++[(0,0)]⟩ b->(cp≠0/\b=b')∨DD (M id) b:=by
   intro b' cp b h;rcases h with ⟨h1,h2⟩ | ⟨j,bc,h1,h2,h3⟩
   . exact .inl ⟨h1,h2⟩
   . rcases Iv h1 with h4 | ⟨_,rfl⟩
     . exact .inr (.inr ⟨j,bc,h4,h2,h3⟩)
     . exact (h2 rfl).elim
 by_cases KT:rows.length+1<=(M id).cap
 . have Wg:(M id).cap≠0:=by omega
   obtain rfl:=h8.resolve_left Wg;obtain ⟨MR,row,Dj,Hq,Df⟩:=hn.outer Wg;have MN:=run_storeCells_at P (M id).DK (rows.length*i.size) e [.slice adn 0 0] 0 row w Dj (by simp[EZ];omega) (by intro v hv;simp at hv;subst hv;rfl);simp only[BC] at MN;have Dy:=H4 (P:=P) (w:=w) (ty:=ty) Ff LF Rl hi (base:=some ⟨(M id).DK,0*1,none⟩) (n:=rows.length) (Acp w) (hf1 w rfl) KT
     (λ ad' e3=>by cases e3;rw[Addr.add_lit];simp only[Nat.zero_mul,Bi];exact MN) (λ e3=>by cases e3)
   simp only[EZ,Nat.mul_one,Al,Ax,Bi] at Dy MN;have IC:∀p,((row.toList.take rows.length++[Value.slice adn 0 0]++row.toList.drop (rows.length+1)).toArray).getD p undef=if p=rows.length then .slice adn 0 0 else row.getD p undef:=by
     intro p;have e1:row.toList.take rows.length++[Value.slice adn 0 0]++row.toList.drop (rows.length+1)=row.toList.set rows.length (.slice adn 0 0):=by
       rw[List.set_eq_take_append_cons_drop,if_pos (by simp;omega)];simp
     rw[e1];simp only[At,List.getElem?_toArray,BR];by_cases e2:rows.length=p
     . subst e2;have h9:rows.length<row.size:=by omega
       simp[h9]
     . rw[if_neg e2,if_neg (Be e2)];simp
   have Baz:((row.toList.take rows.length++[Value.slice adn 0 0]++row.toList.drop (rows.length+1)).toArray).size=(M id).cap:=by
     simp;omega
   refine ⟨_,_,Fc M id ⟨(M id).DK,(M id).cap,(M id).xs++[(0,0)]⟩,hr.change (w':=w.setRow (M id).DK (row.toList.take rows.length++[Value.slice adn 0 0]++row.toList.drop (rows.length+1)).toArray) Cu (On _) (G4 _) rfl rfl rfl (by simp)
     (λ b hb Dl=>setRow_other w _ b _ (λ e=>Dl _ hg (.inl ⟨Wg,e⟩))) ?_ (λ b hb=> .inl ⟨_,hg,?_⟩),Ol KT rfl,Dy⟩
   . rw[Kj];exact mk (λ b hb=>setRow_other w _ b _ (λ e=>MR (e ▸ hb))) (λ j bc h1 h2=>setRow_other w _ _ _ (hn.out j bc h1 h2 Wg)) (λ j bc h1 h2 _=>hn.out j bc h1 h2 Wg) KT hn.max MR
       ⟨_,setRow_heap w _ _ _ e (0,0) Dj,Baz,λ j r bc h1 h2=>by
         obtain ⟨a,h3,h4⟩:=Df j r bc h1 h2 (by simp);have:=(Ao.1 h1).1;exact ⟨a,by rw[IC,if_neg (by omega)];exact h3,h4⟩,adn,by rw[IC,if_pos rfl]⟩
   . rw[Kj] at hb;rcases Ast hb with ⟨_,h1⟩ | h1
     . exact .inl ⟨Wg,h1⟩
     . exact h1
 ·
   obtain ⟨I1,p8,UZ,ho3⟩:∃I1:Array Value,I1.size=rows.length/\(Builtin.firstCells i.size rows.length (.slice ad rows.length (M id).cap)).run P w.drew= .ok I1 w.drew/\
       ∀(j:Nat) r bc,rows[j]?=some r->(M id).xs[j]?=some bc->∃a,I1.getD j undef= .slice a r.length bc.2/\(bc.2=0∨a=some ⟨bc.1,0,none⟩):=by
     by_cases h0:(M id).cap=0
     . have h1:rows=[]:=AY (by omega);subst h1;refine ⟨#[],rfl,?_,λ j r bc h=>by simp at h⟩;cases ad<;>simp[Builtin.firstCells,loadCells,loadCellsFrom]
     . obtain rfl:=h8.resolve_left h0;obtain ⟨MR,row,Dj,Hq,Df⟩:=hn.outer h0;have hl:(row.toList.take rows.length).length=rows.length:=by simp;omega
       refine ⟨(row.toList.take rows.length).toArray,by simpa using hl,?_,λ j r bc h1 h2=>?_⟩
       . refine run_firstCells_some (P:=P) w.drew i.size rows.length ⟨(M id).DK,0*1,none⟩ rows.length (M id).cap _ (by rw[hl,EZ];omega) (λ j v hj=>?_);rw[Addr.add_lit,cell_of_row w.drew (M id).DK (0*1+j) row e (0,0) Dj];rw[AI] at hj;split at hj
         . simpa using hj
         . cases hj
       . obtain ⟨a,h3,h4⟩:=Df j r bc h1 h2 (by simp);have:=(Ao.1 h1).1;refine ⟨a,?_,h4⟩;rw[<-h3];simp[At,AI,this]
   have Dy:=Ho (P:=P) (w:=w) (ty:=ty) Ff LF Rl hi hz (base:=ad) (n:=rows.length) (cap:=(M id).cap) (Acp w) (hf1 w.drew rfl) UZ (by omega) hle hby;have Vo:=grownCap_ge w (rows.length+1) (M id).cap e;have hg2:=grownCap_le_maxLen w (rows.length+1) (M id).cap e (by unfold maxLen;omega);generalize hcp:grownCap w (rows.length+1) (M id).cap e=cp at Dy Vo hg2;have MQ:=heap_alloc_new w.drew (.cells (I1++#[Value.slice adn 0 0]++Builtin.zeroCells z.cells (cp - (rows.length+1))) e);have hold:∀b,b<w.heap.size->(w.drew.alloc (.cells (I1++#[Value.slice adn 0 0]++Builtin.zeroCells z.cells (cp - (rows.length+1))) e)).heap[b]?=w.heap[b]?:=λ b hb=>alloc_old w.drew _ b hb;refine ⟨_,_,Fc M id ⟨w.heap.size,cp,(M id).xs++[(0,0)]⟩,hr.change (w':=w.drew.alloc (.cells (I1++#[Value.slice adn 0 0]++Builtin.zeroCells z.cells (cp - (rows.length+1))) e)) Cu (On _) (G4 _) rfl rfl rfl (by simp)
     (λ b hb _=>hold b hb) ?_ (λ b hb=>?_),Ol Vo rfl,Dy⟩
   . rw[Kj];refine mk (λ b hb=>hold b (hr.CR.Fl b hb)) (λ j bc h1 h2=>hold _ (hn.lt (.inr ⟨j,bc,h1,h2,rfl⟩))) (λ j bc h1 h2 _=>Nat.ne_of_lt (hn.lt (.inr ⟨j,bc,h1,h2,rfl⟩))) Vo hg2 (λ hF=>Nat.lt_irrefl _ (hr.CR.Fl _ hF))
       ⟨_,MQ,by simp[Hg,hzs,p8];omega,λ j r bc h1 h2=>?_,adn,?_⟩
     . obtain ⟨a,h3,h4⟩:=ho3 j r bc h1 h2;have:=(Ao.1 h1).1;refine ⟨a,?_,h4⟩;rw[<-h3];simp only[At];rw[Array.getElem?_append_left (by simp;omega),Array.getElem?_append_left (by omega)]
     . simp only[At];rw[Array.getElem?_append_left (by simp;omega),Array.getElem?_append_right (by omega),p8];simp
   . rw[Kj] at hb;rcases Ast hb with ⟨_,h1⟩ | h1
     . exact .inr (by rw[h1];exact Ai _)
     . exact .inl ⟨_,hg,h1⟩
end
end Go.Am
namespace Go.Am
open Go
section
variable {P:Program} {ops rest:List Oper} {k:Kt} {st:St} {o:Oper}
theorem Aw5(hc:De o.op=none)(h:mOp P st (o.dst.getD 0) o.op λ d h'=>O P true ops rest k (({st with hp:=h'}:St).put o.dst d)):Af P true ops rest k o st .fail:=by
 refine H3 λ ct a w F M Q hr=>?_;obtain ⟨d,h',v,w',F',M',hk,J2,hF,hd,Dy⟩:=Gn hr h;unfold Oper.wp;rcases Dy with Dy | ⟨rfl,Dy⟩
 . rw[Dy];exact ⟨_,F',M',hk,J2.put hd o.dst⟩
 . rw[Dy];exact ⟨_,F',M',hk,J2.put hd o.dst⟩
theorem o8{t e e2:TypeId}{x:Operand}{s1 b1 b2:Nat}{z1:D}(ho:o.op= .buildSlice t 1 #[(0,x)])(ht:CG P t=some ⟨s1,b1,.slice e,z1⟩)(hte:CG P e=some ⟨1,b2,.slice e2,.cl []⟩)
   (hx:ev st x= .cl []) (hq:get st.hp (o.dst.getD 0)=none)
   (h:O P true ops rest k (({st with hp:=(o.dst.getD 0,.arr e 1 [[.sl []]])::st.hp}:St).put o.dst (.ref (o.dst.getD 0) 0 1 1))):Af P true ops rest k o st .fail:=by
 refine Aw5 (by rw[ho];rfl) ?_;rw[ho];simp only[mOp,ht,hte,AH,BE,hx];exact ⟨by omega,by omega,by simpa [GO,D.cells,D.one,HE,KF,chunk,hq] using h⟩
theorem Apc{t e e2:TypeId}{l m:Operand}{n:Int}{k1 k2:IntKind}{s1 b1 b2 sz:Nat}{z1:D}(ho:o.op= .makeSlice t l m)(ht:CG P t=some ⟨s1,b1,.slice e,z1⟩)(hte:CG P e=some ⟨1,b2,.slice e2,.cl []⟩)(EZ:0<sz)
   (hl:ev st l= .p (.int k1 n)) (hm:ev st m= .p (.int k2 n)) (hq:get st.hp (o.dst.getD 0)=none) (h0:0<=n) (hb:n*b2<=140737488355328) (hn:n<=140737488355328)
   (h:O P true ops rest k (({st with hp:=(o.dst.getD 0,.Dp e e2 sz 0 (List.replicate n.toNat []) none)::st.hp}:St).put o.dst (.Dt (o.dst.getD 0) n.toNat))):Af P true ops rest k o st .fail:=by
 refine H3 λ ct a w F M Q hr=>?_;obtain ⟨i1,u1,z1',H7,Ff,hz1,e1⟩:=Ce ht;simp only[TI.mk.injEq] at e1;obtain rfl:=TK.of_slice e1.2.2.1.symm;obtain ⟨i,u,z,hi,hu,hz,e3⟩:=Ce hte;simp only[TI.mk.injEq] at e3;obtain ⟨e4,e5,e6,e7⟩:=e3;have hzv:=PC e7.symm;subst hzv;have hl':=Ci hr l;have q0:=Ci hr m;rw[hl] at hl';rw[hm] at q0;generalize Rg:a.eval l=vl at hl';generalize hvm:a.eval m=vm at q0;cases hl' with | p hl'=>cases hl';cases q0 with | p q0=>
   cases q0;have Dy:=run_make (P:=P) w t e i _ Ff hi hz k1 k2 n n h0 (Bz _) (by rw[Int.mul_comm,<-e5];omega) (by omega);rw[<-e4,Nat.mul_one] at Dy;obtain ⟨h2,h3⟩:=hr.Atx (q:=o.dst.getD 0) (cap:=n.toNat) (l:=n.toNat) (sz:=sz) (e:=e) (e2:=e2) (vs:=madeCells (Value.slice none 0 0).cells n.toNat) (w':=w.alloc (.cells (madeCells (Value.slice none 0 0).cells n.toNat) e))
     hq rfl rfl rfl rfl EZ (Ai _) (by unfold maxLen;omega) (size_madeCells _ _) (λ j hj=>⟨none,by simp[madeCells,Value.cells,At,hj,Nat.mod_one]⟩)
   unfold Oper.wp;have hex:(execOp a.eval o).run P w= .ok (.value (.slice (some ⟨w.heap.size,0,none⟩) n.toNat n.toNat)) (w.alloc (.cells (madeCells (Value.slice none 0 0).cells n.toNat) e)):=by
     simp only[execOp,ho,Rg,hvm,Sem.run_bind,Dy,Result.andThen_ok,Sem.run_pure]
   rw[hex];exact ⟨_,F,_,h,h2.put h3 o.dst⟩
theorem range_one:Array.range 1=#[0]:=rfl
theorem Ape{t e e2:TypeId}{x:Operand}{s1 b1 b2:Nat}{z1:D}(ho:o.op= .buildSlice t 1 #[(0,x)])(ht:CG P t=some ⟨s1,b1,.slice e,z1⟩)(hte:CG P e=some ⟨1,b2,.slice e2,.cl []⟩)
   (hx:ev st x= .cl []) (hq:get st.hp (o.dst.getD 0)=none)
   (h:O P true ops rest k (({st with hp:=(o.dst.getD 0,.Fi (Tx e))::st.hp}:St).put o.dst (.ref (o.dst.getD 0) 0 1 1))):Af P true ops rest k o st .fail:=by
 refine H3 λ ct a w F M Q hr=>?_;obtain ⟨i1,u1,z1',H7,Ff,hz1,e1⟩:=Ce ht;simp only[TI.mk.injEq] at e1;obtain rfl:=TK.of_slice e1.2.2.1.symm;obtain ⟨i,u,z,hi,hu,hz,e3⟩:=Ce hte;simp only[TI.mk.injEq] at e3;obtain ⟨e4,e5,e6,e7⟩:=e3;have hzv:=PC e7.symm;subst hzv;have TU:=Ci hr x;rw[hx] at TU;generalize Mk:a.eval x=vx at TU;cases TU with
 | cl _ ad _ _=>
   obtain ⟨h2,h3⟩:=hr.Aqa (q:=o.dst.getD 0) (e:=e) (ad:=ad) hq;unfold Oper.wp;have hex:(execOp a.eval o).run P w= .ok (.value (.slice (some ⟨w.heap.size,0,none⟩) 1 1)) (w.alloc (.cells #[.slice ad 0 0] e)):=by
     simp[execOp,ho,Instr.buildSlice,run_underlying Ff,Result.andThen,Dm hi,<-e4,Js hi hz,Value.cells,Instr.fill,Mk,newRow,range_one,Nat.mod_one]
   rw[hex];exact ⟨_,F,_,h,h2.put h3 o.dst⟩
theorem Aie{c:Call}{x y:Operand}{id q2 t t2 e e2 e3 e4:TypeId}{s1 b1 b2 sz kk N s2 b4:Nat}{z1 z2:D}{rows:List (List (List Pd))}(ho:o.op= .call c)(hc:c.callee= .builtin .append)(ha:c.args=#[x,y])(hta:c.argTypes=#[t,t2])
   (ht:CG P t=some ⟨s1,b1,.slice e,z1⟩) (ht2:CG P t2=some ⟨s2,b4,.slice e4,z2⟩) (hte:CG P e=some ⟨1,b2,.slice e2,.cl []⟩)
   (hx:ev st x= .Dt id N) (hg:get st.hp id=some (.Dp e e2 sz kk rows none)) (hN:N=rows.length) (hy:ev st y= .ref q2 0 1 1) (hq:get st.hp q2=some (.Fi (Tx e3)))
   (hle:N+1<=140737488355328) (hby:(N+1)*b2<=140737488355328)
   (h:O P true ops rest k (({st with hp:=Cy st.hp id (.Dp e e2 sz (kk+1) (rows++[[]]) none)}:St).put o.dst (.Dt id (N+1)))):Af P true ops rest k o st .fail:=by
 refine H3 λ ct a w F M Q hr=>?_;obtain ⟨i1,u1,z1',H7,Ff,hz1,e1⟩:=Ce ht;simp only[TI.mk.injEq] at e1;obtain rfl:=TK.of_slice e1.2.2.1.symm;obtain ⟨i2,u2,z2',D7,LF,hz2,e21⟩:=Ce ht2;simp only[TI.mk.injEq] at e21;obtain rfl:=TK.of_slice e21.2.2.1.symm;obtain ⟨i,u,z,hi,hu,hz,e31⟩:=Ce hte;simp only[TI.mk.injEq] at e31;obtain ⟨e41,e5,e6,e7⟩:=e31;have hzv:=PC e7.symm;subst hzv;have TU:=Ci hr x;rw[hx] at TU;have hy':=Ci hr y;rw[hy] at hy';obtain ⟨v,w',M',h1,h2,h3⟩:=hr.Avf (P:=P) (ty:=o.type) hg hN TU hq hy' Ff LF (λ k h=>by cases h) hi hz e41.symm rfl hle (by rw[<-e5];exact hby);unfold Oper.wp;have hex:(execOp a.eval o).run P w= .ok (.value v) w':=by
   simp[execOp,ho,hc,ha,hta,resolve,invoke,builtin,h3,Result.andThen]
 rw[hex];exact ⟨_,F,M',h,h1.put h2 o.dst⟩
end
theorem Wk.Aq9{st:St}{id j q sz:Nat}{cs:List D}{ty:TypeId}(e e2:TypeId)(hb:get st.hp id=some (.box cs ty))(hj:cs[j]?=some (.cl []))(hq:get st.hp q=none)(hs:0<sz):
   Wk st ⟨st.env,(q,.Dp e e2 sz 0 [] none)::Cy st.hp id (.box (cs.set j (.Dt q 0)) ty),st.n⟩:=by
 intro c a w F M hr;obtain ⟨Hy,h1⟩:=hr.Y3 (e:=e) (e2:=e2) hq hs;have Dl:id≠q:=λ h=>by subst h;rw[hq] at hb;cases hb
 have R7:get ((q,AO.Dp e e2 sz 0 [] none)::st.hp) id=some (.box cs ty):=by rw[Ct,if_neg (Be Dl)];exact hb
 have Cu:∀i,get ((q,AO.Dp e e2 sz 0 [] none)::Cy st.hp id (.box (cs.set j (.Dt q 0)) ty)) i=if i=id then some (.box (cs.set j (.Dt q 0)) ty) else get ((q,AO.Dp e e2 sz 0 [] none)::st.hp) i:=by
   intro i;simp only[Ct,CS];by_cases e1:i=id
   . subst e1;simp[Be Dl]
   . by_cases e2:q=i
     . subst e2;simp[e1]
     . simp[e1,e2]
 have Hr:=DB Cu R7 rfl;have Al7:=Hy.heap.obj id _ R7;obtain ⟨MR,row,t,Dj,EZ,Df⟩:=Al7;refine ⟨F,Fc M q ⟨0,0,[]⟩,?_⟩;refine Hy.change (st:=⟨st.env,(q,AO.Dp e e2 sz 0 [] none)::st.hp,st.n⟩) Cu (λ _ _=>rfl) (by rw[Hr];exact CX.refl _ _) rfl rfl rfl (Ai _) (λ _ _ _=>rfl) ?_ (λ b hb=> .inl ⟨_,R7,hb⟩);refine ⟨MR,row,t,Dj,by simpa using EZ,λ i d hd=>?_,λ h5 h6 i hi=>?_⟩;rotate_left
 . refine Df.2 h5 ?_ i ?_
   . obtain ⟨x,hx,hn⟩:=AU.1 h6;rcases List.mem_or_eq_of_mem_set hx with h7 | rfl
     . exact AU.2 ⟨x,h7,hn⟩
     . cases hn
   . by_cases e1:i=j
     . subst e1;rw[Bw (Ao.1 hj).1] at hi;cases hi
     . rwa[List.getElem?_set_ne (Be e1)] at hi
 rw[Hr];by_cases e1:i=j
 . subst e1;have Cr:=(Ao.1 hj).1;rw[Bw Cr] at hd;cases hd;have h2:=Df.1 i _ hj;refine ⟨?_,h2.2⟩;have h3:=h2.1;generalize row.getD i undef=v at h3;cases h3 with | cl _ ad _ _=>exact h1 ad
 . rw[List.getElem?_set_ne (Be e1)] at hd;exact Df.1 i d hd
end Go.Am
namespace Go.Am
open Go
theorem B1.seal{P:Program}{f:FuncId}{args:List D}{h:Hp}{R R':Hp->D->Prop}(hc:B1 P f args h R)(hR:∀h' r,R h' r->Fh h' r λ d h2=>Pu (h.map (·.1)) h2 d R'):B1 P f args h R':=by
 intro vs w F M hHR hFl hsb hd;refine (hc vs w F M hHR hFl hsb hd).mono ?_;rintro e w' ⟨v,h',r,F',M',rfl,hr,Vq,U0,hk⟩;have Aui:Rel ⟨w,F,ET M h,M,sg h⟩ ⟨[],h',0⟩ ⟨#[],[]⟩ w' F' M':=⟨λ t d ht=>by simp[get] at ht,rfl,rfl,Vq,hk⟩;obtain ⟨d,h2,F2,IP,Ax7,_,_,IQ⟩:=Pb r Aui U0 (hR h' r hr);obtain ⟨h3,r2,M2,h4,h5,h6,h7⟩:=OH Ax7 rfl (λ _=>Iff.rfl) IQ IP;exact ⟨v,h3,r2,F2,M2,rfl,h4,h5,h6,h7⟩
end Go.Am
end
section
set_option linter.unusedVariables false
set_option linter.unusedSimpArgs false
namespace Go.Am
open Go
def Fz(sz n:Nat):Ary where
 sg:= .arr sz n
 holds:=λ _ _ _=>True
 Gm:=λ _ _=>False
 CR:=λ _ _ _ _=>trivial
 JA:=λ _ h=>h.elim
 lt:=λ _ h=>h.elim
 Av2:=λ _ _ _=>trivial
section
variable {c:Ctx} {st:St} {a:Act} {w:World} {F:Nat->Prop} {M:Nat->Mb}
theorem Rel.move(hr:Rel c st a w F M){q q' k sz:Nat}{e:TypeId}{es:List (List Pd)}(hq:get st.hp q=some (.arr e sz es))(hk:k<=es.length)(Yj:get st.hp q'=none):
   Rel c ⟨st.env,(q',.arr e sz (es.take k))::Cy st.hp q (.Fi (Fz sz (es.length+1))),st.n⟩ a w F (Fc M q' (M q))/\
     ∀v,DR F w M (sg st.hp) (.ref q 0 k es.length) v->DR F w (Fc M q' (M q)) (sg ((q',.arr e sz (es.take k))::Cy st.hp q (.Fi (Fz sz (es.length+1))))) (.ref q' 0 k k) v:=by
 have Dl:q'≠q:=λ h=>by subst h;rw[hq] at Yj;cases Yj
 have Cu:∀i,get ((q',AO.arr e sz (es.take k))::Cy st.hp q (.Fi (Fz sz (es.length+1)))) i=if i=q' then some (.arr e sz (es.take k)) else if i=q then some (.Fi (Fz sz (es.length+1))) else get st.hp i:=by
   intro i;simp only[Ct,CS];by_cases e1:q'=i
   . subst e1;simp
   . rw[if_neg e1,if_neg (Be e1)]
 have hMo:∀i,i≠q'->Fc M q' (M q) i=M i:=λ i hi=>by simp[Fc,hi]
 have IF:Fc M q' (M q) q'=M q:=by simp[Fc]
 have hlen:(es.take k).length=k:=by simp;omega
 have Auf:∀i,i≠q'->i≠q->sg ((q',AO.arr e sz (es.take k))::Cy st.hp q (.Fi (Fz sz (es.length+1)))) i=sg st.hp i:=λ i h1 h2=>by
   simp[sg,Cu,h1,h2]
 have Vj:sg st.hp q=some (.arr sz es.length):=by simp[sg,hq,AO.sg]
 have Ax4:sg ((q',AO.arr e sz (es.take k))::Cy st.hp q (.Fi (Fz sz (es.length+1)))) q=some (.arr sz (es.length+1)):=by
   unfold sg;rw[Cu,if_neg (Be Dl),if_pos rfl];rfl
 have Rh:sg ((q',AO.arr e sz (es.take k))::Cy st.hp q (.Fi (Fz sz (es.length+1)))) q'=some (.arr sz k):=by
   unfold sg;rw[Cu,if_pos rfl];simp[AO.sg,hk]
 have Auh:sg st.hp q'=none:=by simp[sg,Yj]
 have HI:CX M (Fc M q' (M q)) (sg st.hp) (sg ((q',AO.arr e sz (es.take k))::Cy st.hp q (.Fi (Fz sz (es.length+1))))):=by
   refine ⟨λ i hi=>?_,λ i s n hi=>?_,λ i s n kk hi=>?_⟩
   . have h1:i≠q':=λ h=>by rw[h,Auh] at hi;cases hi
     have h2:i≠q:=λ h=>by rw[h,Vj] at hi;cases hi
     rw[Auf i h1 h2,hMo i h1];exact ⟨hi,rfl⟩
   . have h1:i≠q':=λ h=>by rw[h,Auh] at hi;cases hi
     by_cases h2:i=q
     . subst h2;rw[Vj] at hi;cases hi;exact ⟨es.length+1,Ax4,by omega,λ h=>by omega⟩
     . rw[Auf i h1 h2,hMo i h1];exact ⟨n,hi,Ai _,λ _=>rfl⟩
   . have h1:i≠q':=λ h=>by rw[h,Auh] at hi;cases hi
     have h2:i≠q:=λ h=>by rw[h,Vj] at hi;cases hi
     rw[Auf i h1 h2,hMo i h1];exact ⟨n,kk,hi,Ai _,Ai _,λ _=>⟨rfl,rfl⟩,λ _=>rfl⟩
 have hF:∀b,F b->w.heap[b]?=w.heap[b]?:=λ _ _=>rfl;have Al3:∀i o b,get ((q',AO.arr e sz (es.take k))::Cy st.hp q (.Fi (Fz sz (es.length+1)))) i=some o->o.Gm (Fc M q' (M q) i) b->
     ∃i0 o0,get st.hp i0=some o0/\o0.Gm (M i0) b/\(i=q'->i0=q)/\(i≠q'->i0=i/\i≠q):=by
   intro i o b hi ho;rw[Cu] at hi;by_cases h1:i=q'
   . subst h1;rw[if_pos rfl] at hi;cases hi;rw[IF] at ho;exact ⟨q,_,hq,ho,λ _=>rfl,λ h=>(h rfl).elim⟩
   . rw[if_neg h1] at hi;by_cases h2:i=q
     . subst h2;rw[if_pos rfl] at hi;cases hi;exact ho.elim
     . rw[if_neg h2] at hi;rw[hMo i h1] at ho;exact ⟨i,o,hi,ho,λ h=>(h1 h).elim,λ _=>⟨rfl,h2⟩⟩
 refine ⟨⟨λ t d ht=>(hr.env t d ht).CR hF (λ _ h=>h) HI,hr.size,hr.defers,⟨λ i o hi=>?_,λ i o i' o' b hi T2 ho NH=>?_⟩,?_⟩,λ v hv=>?_⟩
 . rw[Cu] at hi;by_cases h1:i=q'
   . subst h1;rw[if_pos rfl] at hi;cases hi;rw[IF];obtain ⟨g1,g2,g3,g4,g5⟩:=hr.heap.obj q _ hq;refine ⟨g1,by rw[hlen];omega,g3,λ j x hx=>?_,λ hc=>?_⟩
     . rw[AI] at hx;split at hx
       . exact g4 j x hx
       . cases hx
     . obtain ⟨f1,row,f2,f3,f4⟩:=g5 hc;refine ⟨f1,row,f2,f3,λ j x l y hx hy=>?_⟩;rw[AI] at hx;split at hx
       . exact f4 j x l y hx hy
       . cases hx
   . rw[if_neg h1] at hi;by_cases h2:i=q
     . subst h2;rw[if_pos rfl] at hi;cases hi;exact trivial
     . rw[if_neg h2] at hi;rw[hMo i h1];exact (hr.heap.obj i o hi).CR hF (λ _ h=>h) HI (λ b CN=>⟨rfl,hr.heap.JA ⟨i,o,hi,CN⟩⟩)
 . obtain ⟨j,p,h1,h2,h3,h4⟩:=Al3 i o b hi ho;obtain ⟨j',p',EB,H9,h3',h4'⟩:=Al3 i' o' b T2 NH;have hj:=hr.heap.inj j p j' p' b h1 EB h2 H9;by_cases e1:i=q'
   . by_cases e2:i'=q'
     . rw[e1,e2]
     . have:=h4' e2;have:=h3 e1;omega
   . by_cases e2:i'=q'
     . have:=h4 e1;have:=h3' e2;omega
     . have:=h4 e1;have:=h4' e2;omega
 . have hk:=hr.CR;refine ⟨hk.os,hk.tape,hk.output,hk.size,hk.NA,hk.F0,hk.Fn,hk.Fl,?_,hk.W5.trans HI,hk.s0b⟩;rintro b ⟨i,o,hi,ho⟩;obtain ⟨j,p,h1,h2,_⟩:=Al3 i o b hi ho;exact hk.own _ ⟨j,p,h1,h2⟩
 . cases hv with
   | ref id off len N RM n v hs hN hva h=>
     rw[Vj] at hs;cases hs;obtain ⟨ad,cap,g1,g2,g3,g4,g5⟩:=h rfl;refine .ref q' 0 k k sz k _ Rh (Ai _) hva λ _=>?_;rw[Tl,IF];exact ⟨ad,cap,g1,by omega,g3,g4,g5⟩
theorem Wk.Y4{st:St}{t q k sz:Nat}(q':Nat){e:TypeId}{es:List (List Pd)}(ht:get st.env t=some (.ref q 0 k es.length))(hq:get st.hp q=some (.arr e sz es))(hk:k<=es.length)(Yj:get st.hp q'=none):
   Wk st ⟨(t,.ref q' 0 k k)::st.env,(q',.arr e sz (es.take k))::Cy st.hp q (.Fi (Fz sz (es.length+1))),st.n⟩:=by
 intro c a w F M hr;obtain ⟨h1,h2⟩:=hr.move hq hk Yj;refine ⟨F,_,⟨λ j d hj=>?_,h1.size,h1.defers,h1.heap,h1.CR⟩⟩;rw[Ct] at hj;split at hj
 . rename_i e1;subst e1;cases hj;exact h2 _ (hr.env _ _ ht)
 . exact h1.env j d hj
theorem Wk.H5{st:St}{id j q k sz:Nat}(q':Nat){cs:List D}{ty e:TypeId}{es:List (List Pd)}(hb:get st.hp id=some (.box cs ty))(hj:cs[j]?=some (.ref q 0 k es.length))(hq:get st.hp q=some (.arr e sz es))
   (hk:k<=es.length) (Yj:get st.hp q'=none):
   Wk st ⟨st.env,Cy ((q',.arr e sz (es.take k))::Cy st.hp q (.Fi (Fz sz (es.length+1)))) id (.box (cs.set j (.ref q' 0 k k)) ty),st.n⟩:=by
 intro c a w F M hr;obtain ⟨Hy,h2⟩:=hr.move hq hk Yj;have Dl:id≠q:=λ h=>by subst h;rw[hq] at hb;cases hb
 have Axh:id≠q':=λ h=>by subst h;rw[Yj] at hb;cases hb
 have R7:get ((q',AO.arr e sz (es.take k))::Cy st.hp q (.Fi (Fz sz (es.length+1)))) id=some (.box cs ty):=by
   rw[Ct,if_neg (Be Axh),CS,if_neg Dl];exact hb
 have Cu:∀i,get (Cy ((q',AO.arr e sz (es.take k))::Cy st.hp q (.Fi (Fz sz (es.length+1)))) id (.box (cs.set j (.ref q' 0 k k)) ty)) i=
     if i=id then some (.box (cs.set j (.ref q' 0 k k)) ty) else get ((q',AO.arr e sz (es.take k))::Cy st.hp q (.Fi (Fz sz (es.length+1)))) i:=λ i=>by rw[CS]
 have Hr:=DB Cu R7 rfl;have hold:=(hr.heap.obj id _ hb);obtain ⟨MR,row,t,Dj,EZ,Df⟩:=Hy.heap.obj id _ R7;obtain ⟨_,Ba3,t0,Asq,_,Acu⟩:=hold;have Kj:Fc M q' (M q) id=M id:=by simp[Fc,Axh]
 rw[Kj] at MR Dj;rw[Asq] at Dj;simp only[An,Obj.cells.injEq] at Dj;obtain ⟨rfl,hty,_⟩:=Dj;refine ⟨F,Fc M q' (M q),?_⟩;refine Hy.change (st:=⟨st.env,(q',AO.arr e sz (es.take k))::Cy st.hp q (.Fi (Fz sz (es.length+1))),st.n⟩) Cu (λ _ _=>rfl) (by rw[Hr];exact CX.refl _ _) rfl rfl rfl (Ai _) (λ _ _ _=>rfl) ?_ (λ b hb=> .inl ⟨_,R7,hb⟩);rw[Kj];refine ⟨MR,Ba3,t0,Asq,by simpa using EZ,λ i d hd=>?_,λ h5 h6 i hi=>?_⟩;rotate_left
 . refine Acu.2 h5 ?_ i ?_
   . obtain ⟨x,hx,hn⟩:=AU.1 h6;rcases List.mem_or_eq_of_mem_set hx with h7 | rfl
     . exact AU.2 ⟨x,h7,hn⟩
     . cases hn
   . by_cases e1:i=j
     . subst e1;rw[Bw (Ao.1 hj).1] at hi;cases hi
     . rwa[List.getElem?_set_ne (Be e1)] at hi
 rw[Hr];by_cases e1:i=j
 . subst e1;have Cr:=(Ao.1 hj).1;rw[Bw Cr] at hd;cases hd;have h3:=Acu.1 i _ hj;exact ⟨h2 _ h3.1,h3.2⟩
 . rw[List.getElem?_set_ne (Be e1)] at hd;exact Df.1 i d hd
end
end Go.Am
namespace Go.Am
open Go
section
variable {P:Program} {c:Ctx} {st:St} {a:Act} {w:World} {F:Nat->Prop} {M:Nat->Mb}
theorem Wk.Avb{t:Nat}{es:List (List Pd)}(ht:get st.env t=some (.cz es)):Wk st ⟨(t,.p (.sl es))::st.env,st.hp,st.n⟩:=by
 intro c a w F M hr;refine ⟨F,M,⟨λ j d hj=>?_,hr.size,hr.defers,hr.heap,hr.CR⟩⟩;rw[Ct] at hj;split at hj
 . rename_i e1;subst e1;cases hj;have h2:=hr.env _ _ ht;generalize a.tmps.getD t undef=v at h2;cases h2 with | cz _ ad h=>exact .p h
 . exact hr.env j d hj
end
end Go.Am
end
