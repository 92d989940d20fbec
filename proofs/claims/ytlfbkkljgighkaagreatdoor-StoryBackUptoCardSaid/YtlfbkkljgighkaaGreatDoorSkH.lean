/- Texts of this proof, what it rests on, merged: part H. -/
import Derived.Lib.Builder
import Derived.Lib.UnsafeStr
import Derived.Tactics
import Derived.Tactics2
import Derived.Test.YtlfbkkljgighkaaGreatDoorSkG
noncomputable section
namespace Go.Am
open Go Go.Proofs Go.RowKit
open Go.IntKind (i64)
open Tryz
set_option maxRecDepth 100000
set_option linter.unusedVariables false
set_option linter.unusedSimpArgs false
set_option maxHeartbeats 2000000
theorem Aqg:∃j,prog.info? 98=some j/\j.size=2:=by
 obtain ⟨i,u,z,a,b,f,e⟩:=De Bqk;simp only[TI.mk.injEq] at e;exact ⟨i,a,e.1.symm⟩
theorem Zc(b)(w)(h0:w.cell? ⟨b,0,none⟩=some (.pointer (some ⟨b,0,none⟩))):
   Calls prog 62 #[.pointer (some ⟨b,0,none⟩)] w λ e w'=>e= .returned (.tuple #[])/\w'=w:=by
 obtain ⟨j,a,_⟩:=Aqg
 go_enter func62,ntmps62
 go_wp2
 rw[Lib.run_neq_ptr_same w _ underlying95 a]
 go_wp2
 go_end0
 exact ⟨rfl,rfl⟩
theorem X8(b)(w)(h0:w.cell? ⟨b,0,none⟩=some (.pointer none))(a:w.shape? b=some (98,2))(i:w.frozen? ⟨b,0,none⟩=false):
   Calls prog 62 #[.pointer (some ⟨b,0,none⟩)] w λ e w'=>e= .returned (.tuple #[])/\w'=w.setCell ⟨b,0,none⟩ (.pointer (some ⟨b,0,none⟩)):=by
 obtain ⟨j,g,f⟩:=Aqg
 go_enter func62,ntmps62
 go_wp2
 rw[Lib.run_to_unsafe w ⟨b,0,none⟩ underlying95 underlying211 g (by rw[f];decide) a (Nat.zero_lt_succ 1)];simp only[Result.andThen];rw[Oper.upon_value]
 go_wp2
 rw[run_callFunc_extern func107 AY AY AY (e:=Extern.AbiNoEscape.same) AY];rw[Lib.run_noEscape];simp only[Result.andThen];rw[Oper.upon_value]
 go_wp2
 rw[Lib.run_from_unsafe w ⟨b,0,none⟩ underlying211 underlying95 g a AY];simp only[Result.andThen];rw[Oper.upon_value]
 go_wp2
 go_end0
 exact ⟨rfl,rfl⟩
theorem Bax(b g n cap)(p)(l)(cur)(T)(w)(fr)(hb:w.heap[b]?=some (.cells #[p,.slice (some ⟨g,0,none⟩) n cap] T (0,0)))(r:n=l.length)(h0:l≠[])
   (o:w.heap[g]?=some (.cells cur 5 fr)) (t:n<=cap) (f:cap<=maxLen) (m:cur.size=cap) (D4:∀(j:Nat) (x:UInt8),l[j]?=some x->cur[j]?=some (Value.int .u8 x.toNat)):
   Calls prog 31 #[.pointer (some ⟨b,0,none⟩)] w λ e w'=>e= .returned (.string ⟨l.toArray⟩)/\w'=w.drew.freeze ⟨g,0,none⟩ l.length:=by
 subst r;have q:l.length≠0:=by simpa using h0
 have s:w.drew.cell? ⟨b,1,none⟩=some (.slice (some ⟨g,0,none⟩) l.length cap):=by
   have:w.drew.heap[b]?=some (.cells #[p,.slice (some ⟨g,0,none⟩) l.length cap] T (0,0)):=hb;rw[Lib.cell_of_heap this];rfl
 have a:w.drew.heap[g]?=some (.cells cur 5 fr):=o;have i:(Builtin.unsafeSliceData_ #[96] 159 #[.slice (some ⟨g,0,none⟩) l.length cap]).run prog w.drew= .ok (.pointer (some ⟨g,0,none⟩)) w.drew:=
   Lib.run_unsafeSliceData_row _ _ _ _ _ _ AQ
 have k:(Builtin.unsafeString_ #[159,3] 9 #[.pointer (some ⟨g,0,none⟩),.int .i64 l.length]).run prog w.drew= .ok (.string ⟨l.toArray⟩) (w.drew.freeze ⟨g,0,none⟩ l.length):=by
   refine Lib.run_unsafeString_row w.drew 159 3 9 5 underlying159 AY g cur.size (by simp[World.shape?,a]) l h0 AQ (by unfold maxLen at f;omega) ?_;intro j x hx;have Dv:=(Bn.1 hx).1;rw[Addr.add_lit];simp only[World.cell?,a,B2];exact D4 j x hx
 have Bo9:=mixed
 go_enter func31,ntmps31
 go_wp2
 go_region_o
 all_goals (go_wp2;go_ret;exact ⟨rfl,rfl⟩)
theorem Ag8(b)(p)(T)(w)(hb:w.heap[b]?=some (.cells #[p,.slice none 0 0] T (0,0))):
   Calls prog 31 #[.pointer (some ⟨b,0,none⟩)] w λ e w'=>e= .returned (.string ⟨#[]⟩)/\w'=w.drew:=by
 have g:w.drew.cell? ⟨b,1,none⟩=some (.slice none 0 0):=by
   have:w.drew.heap[b]?=some (.cells #[p,.slice none 0 0] T (0,0)):=hb;rw[Lib.cell_of_heap this];rfl
 have a:(Builtin.unsafeSliceData_ #[96] 159 #[.slice none 0 0]).run prog w.drew= .ok (.pointer none) w.drew:=Lib.run_unsafeSliceData_nil _ _ _ _ _;have f:(Builtin.unsafeString_ #[159,3] 9 #[.pointer none,.int .i64 0]).run prog w.drew= .ok (.string .empty) w.drew:=Lib.run_unsafeString_none _ _ _ _ _;have Bo9:=mixed
 go_enter func31,ntmps31
 go_wp2
 go_region_o
 all_goals (go_wp2;go_ret;exact ⟨rfl,rfl⟩)
theorem Aqi{h}{x}{T}(a:get h base=some (.box [.ptr base 0,x] T)):C3 prog 62 [.ptr base 0] h λ h' r=>h'=h/\r= .Em []:=
 Wt Aon a Zc
theorem Alh:C3 prog 62 [.ptr base 0] [(base,.box [.np,.cl []] 98)] λ h' r=>h'=[(base,.box [.ptr base 0,.cl []] 98)]/\r= .Em []:=
 UP (x:= .np) Aon AV X8
theorem Atp{T}{l}{i}(f:l≠[]):C3 prog 31 [.ptr base 0] [(base,.box [i,.ref (base+1) 0 l.length l.length] T),(base+1,.arr 5 1 (Gz l))]
     λ h' r=>h'=[(base,.box [i,.ref (base+1) 0 l.length l.length] T),(base+1,.Oh 1 (Gz l))]/\r= .p (.str l):=
 Af2 Aot f λ b g n cap p cur T w j hb o m k a e D4=>Bax b g n cap p l cur T w j hb o f m k a e D4
theorem Aqf{T}(a:T≠0):C3 prog 31 [.ptr base 0] [(base,.box [.np,.cl []] T)] λ h' r=>h'=[(base,.box [.np,.cl []] T)]/\r= .p (.str []):=
 Ws Aot a Ag8
end Go.Am
end
noncomputable section
namespace Go.Am
open Go Go.Proofs
open Go.IntKind (i64)
open Tryz
set_option maxRecDepth 100000
set_option linter.unusedVariables false
set_option linter.unusedSimpArgs false
set_option maxHeartbeats 2000000
theorem Bgm(l s):Gz (l++s)=Gz l++Gz s:=by simp[Gz]
theorem Bqd(s):PX 1 (Gz s):=by simp[PX,Gz]
theorem Bw8:PX 1 []:=by simp[PX]
theorem Alf(s)(b:s≠[])(e:s.length<=1000000000):C3 prog 29 [.ptr 1000000 0,.p (.str s)] [(1000000,.box [.np,.cl []] 98)]
   λ h r=>h=[(1000000,.box [.ptr 1000000 0,rD 0 s] 98),(0,.arr 5 1 (Gz s))]/\r= .Em [iD s.length,.bad]:=by
 refine Dx func29 rfl Aov (by simp[Tryz.f29]) ?_;have a:Gz s≠[]:=by simpa [Gz] using b
 simp only[go_sem];refine Cq Alh ?_;simp only[go_sem,J5,a];refine ⟨⟨Bqd s,Bw8,AQ⟩,DF ?_⟩;simp only[go_sem,J5]
theorem Aqc(l s)(a:l.length+s.length<=1000000000):C3 prog 29 [.ptr 1000000 0,.p (.str s)] [(1000000,.box [.ptr 1000000 0,rD 1000001 l] 98),(1000001,.arr 5 1 (Gz l))]
   λ h r=>h=[(1000000,.box [.ptr 1000000 0,.ref 1000001 0 (l++s).length (l++s).length] 98),(1000001,.arr 5 1 (Gz (l++s)))]/\r= .Em [iD s.length,.bad]:=by
 refine Dx func29 rfl Aov (by simp[Tryz.f29]) ?_;simp only[go_sem];refine Cq (Aqi rfl) ?_;simp only[go_sem,J5];refine ⟨⟨Bqd s,AQ⟩,?_⟩;simp only[<-Bgm,J5];refine DF ?_;simp only[go_sem,J5]
end Go.Am
end
noncomputable section
namespace Go.Am
open Go
open Go Go.Proofs
open Go.IntKind (i64)
open Tryz
set_option maxRecDepth 100000
set_option linter.unusedVariables false
set_option linter.unusedSimpArgs false
set_option maxHeartbeats 2000000
section
variable {P:AK} {c:Ctx} {a:Act} {w:AI} {M:Nat->Mb}
def Aeq:Hp->List (Bool×D)->(Ai->Hp->Prop)->Prop
 | h,[],k=>k [] h
 | h,(true,d)::r,k=>HH h d λ x f=>Aeq f r λ e b=>k (x::e) b
 | h,(false,d)::r,k=>Aeq h r λ e b=>k (d::e) b
theorem Aep:∀(ds:List (Bool×D)) {st:St} {F:Nat->Prop} (vs:At),Rel c st a w F M->Nk F w M (sg st.hp) (ds.map (·.2)) vs->∀{k:Ai->Hp->Prop},Aeq st.hp ds k->
   ∃Yn h' F',k Yn h'/\Rel c {st with hp:=h'} a w F' M/\(∀b,F b->F' b)/\sg h'=sg st.hp/\Nk F' w M (sg h') Yn vs
 | [],st,F,vs,o,g,k,h=>by
   simp only[Aeq] at h;exact ⟨[],st.hp,F,h,o,λ _ h=>h,rfl,g⟩
 | (b,d)::ds,st,F,vs,o,g,k,h=>by
   cases vs with
   | nil=>have:=g.1;simp at this
   | cons v vs=>
     have m:DR F w M (sg st.hp) d v:=by simpa [List.getD] using g.2 0 d rfl
     obtain ⟨x,f,F1,z,KF,j,n,hx⟩:∃x f F1,(Aeq f ds λ r q=>k (x::r) q)/\Rel c {st with hp:=f} a w F1 M/\(∀b,F b->F1 b)/\sg f=sg st.hp/\DR F1 w M (sg f) x v:=by
       cases b with
       | false=>exact ⟨d,st.hp,F,by simpa only[Aeq] using h,o,λ _ h=>h,rfl,m⟩
       | true=>exact RG d o m (by simpa only[Aeq] using h)
     have Tk:Nk F1 w M (sg f) (ds.map (·.2)) vs:=by
       refine ⟨by have:=g.1;simpa using this,λ i e u=>?_⟩;have:=g.2 (i+1) e (by simpa using u);rw[n];have s:DR F w M (sg st.hp) e (vs.getD i undef):=by simpa [List.getD] using this
       exact s.keep (λ _ _=>rfl) j (Ea.refl _ _)
     obtain ⟨r,h2,F2,Sc,JE,l,Vk,KL⟩:=Aep ds (st:={st with hp:=f}) vs KF Tk z;refine ⟨x::r,h2,F2,Sc,JE,λ b hb=>l b (j b hb),Vk.trans n,by have:=KL.1;simpa using this,λ i y p=>?_⟩;cases i with
     | zero=>
       simp only[BE,Bo] at p;subst p;have t:=hx.keep (w':=w) (λ _ _=>rfl) l (Ea.refl M (sg f));rw[Vk]
       simpa [List.getD] using t
     | succ i=>simp only[List.getElem?_cons_succ] at p;simpa [List.getD] using KL.2 i y p
end
theorem C3.Bch{P}{f}{args}{h}{R R':Hp->D->Prop}(s:C3 P f args h R)
   (hR:∀h' r,R h' r->∃q:List (Bool×D),r= .agg (q.map (·.2))/\Aeq h' q λ ds h2=>R8 (h.map (·.1)) h2 (.agg ds) R'):C3 P f args h R':=by
 intro H w F M Qp Uh Xn u;refine (s H w F M Qp Uh Xn u).mono ?_;rintro e k ⟨v,h',r,F',M',rfl,z,XA,Ym,x⟩;obtain ⟨q,rfl,hb⟩:=hR h' r z;have Akl:Rel ⟨w,F,Hn M h,M,sg h⟩ ⟨[],h',0⟩ ⟨#[],[]⟩ k F' M':=⟨λ t d B=>by simp[get] at B,rfl,rfl,XA,x⟩;cases Ym with
 | agg _ j y a=>
   obtain ⟨ds,h2,F2,Sc,Xp,_,_,J9⟩:=Aep q j.toList Akl ⟨by simpa using y,λ i e g=>by have:=a i e g;simpa [List.getD,Array.getD_eq_getD_getElem?] using this⟩ hb;have b:DR F2 k M' (sg h2) (.agg ds) _:= .agg _ j (by have:=J9.1;simpa using this) (λ i e g=>by have:=J9.2 i e g;simpa [List.getD,Array.getD_eq_getD_getElem?] using this);obtain ⟨l,E,M2,m,n,o,p⟩:=N6 Xp rfl (λ _=>Iff.rfl) b Sc;exact ⟨_,l,E,F2,M2,rfl,m,n,o,p⟩
theorem Nl{P}{ops rest}{k}{dst}{st b Lt}{h}{T}{f}{ds}{i}{o}(j:Wk b Lt)(e:Do P true ops rest k o Lt):
   Cc P true ops rest k dst st h T f ds i (Sm P true ops rest k o b):=by
 refine .inr ⟨rfl,λ c a w F M Q g=>?_⟩;obtain ⟨F1,M1,KF⟩:=j c a w F M g;exact Yr KF e Q
section
variable {c:Ctx} {st:St} {a:Act} {w:AI} {F:Nat->Prop} {M:Nat->Mb}
theorem Rel.Bl5(m:Rel c st a w F M){q sz n:Nat}{o:AO}(l:get st.hp q=some o)(k:o.sg= .arr sz n):
   Rel c ⟨st.env,Dn st.hp q (.Ij (F7 (.arr sz (n+1)))),st.n⟩ a w F M:=by
 have Dr:∀j,get (Dn st.hp q (.Ij (F7 (.arr sz (n+1))))) j=if j=q then some (.Ij (F7 (.arr sz (n+1)))) else get st.hp j:=DH _ _ _
 have g:sg st.hp q=some (.arr sz n):=by rw[DT l,k]
 have V1:sg (Dn st.hp q (.Ij (F7 (.arr sz (n+1))))) q=some (.arr sz (n+1)):=by rw[Ee Dr,if_pos rfl];rfl
 refine m.change (M':=M) Dr (λ _ _=>rfl) ⟨λ j e=>?_,λ j r i e=>?_,λ j r i p e=>?_⟩ rfl rfl rfl (Bk _) (λ _ _ _=>rfl) trivial (λ b hb=>hb.elim)
 . have f:j≠q:=λ f=>by rw[f,g] at e;cases e
   rw[Ee Dr,if_neg f];exact ⟨e,rfl⟩
 . by_cases f:j=q
   . subst f;rw[g] at e;cases e;exact ⟨n+1,V1,AQ,λ h=>AQ⟩
   . rw[Ee Dr,if_neg f];exact ⟨i,e,Bk _,λ _=>rfl⟩
 . have f:j≠q:=λ f=>by rw[f,g] at e;cases e
   rw[Ee Dr,if_neg f];exact ⟨i,p,e,Bk _,Bk _,λ _=>⟨rfl,rfl⟩,λ _=>rfl⟩
theorem Wk.Av3{q sz:Nat}{e:AG}{es:Ag}(b:get st.hp q=some (.arr e sz es)):Wk st ⟨st.env,Dn st.hp q (.Ij (F7 (.arr sz (es.length+1)))),st.n⟩:=
 λ _ _ _ F M f=>⟨F,M,f.Bl5 b rfl⟩
theorem Wk.Aax{q sz:Nat}{es:Ag}(b:get st.hp q=some (.Oh sz es)):Wk st ⟨st.env,Dn st.hp q (.Ij (F7 (.arr sz (es.length+1)))),st.n⟩:=
 λ _ _ _ F M e=>⟨F,M,e.Bl5 b rfl⟩
end
section
variable {c:Ctx} {st:St} {a:Act} {w:AI} {F:Nat->Prop} {M:Nat->Mb}
theorem Rel.Bnk(z:Rel c st a w F M){id q sz k:Nat}{t e:AG}{rows:Ay}(B:get st.hp id=some (.Fc t e sz k rows none))(hq:get st.hp q=none):
   ∃F' M',Rel c ⟨st.env,(q,.arr t 1 (rows.map λ r=>[.sl r]))::Dn st.hp id (.Ij (F7 (.Fc sz rows.length k))),st.n⟩ a w F' M'/\(∀b,F b->F' b)/\
     Ea M M' (sg st.hp) (sg ((q,.arr t 1 (rows.map λ r=>[.sl r]))::Dn st.hp id (.Ij (F7 (.Fc sz rows.length k)))))/\
     ∀v,DR F w M (sg st.hp) (.E3 id rows.length) v->DR F' w M' (sg ((q,.arr t 1 (rows.map λ r=>[.sl r]))::Dn st.hp id (.Ij (F7 (.Fc sz rows.length k))))) (.ref q 0 rows.length rows.length) v:=by
 have Q:MV F w (M id) t e sz rows none:=z.heap.obj id _ B;have EG:id≠q:=λ h=>by subst h;rw[hq] at B;cases B
 generalize S:((q,.arr t 1 (rows.map λ r=>[.sl r]))::Dn st.hp id (.Ij (F7 (.Fc sz rows.length k))):Hp)=I;have Dr:∀j,get I j=if j=q then some (.arr t 1 (rows.map λ r=>[.sl r])) else if j=id then some (.Ij (F7 (.Fc sz rows.length k))) else get st.hp j:=by
   intro j;rw[<-S,Dj,DH];by_cases g:q=j
   . subst g;simp
   . rw[if_neg g,if_neg (CK g)]
 have N:∀j,j≠q->I2 M q ⟨(M id).Fm,(M id).cap,[]⟩ j=M j:=λ j f=>by simp[I2,f]
 have Mo:I2 M q ⟨(M id).Fm,(M id).cap,[]⟩ q=⟨(M id).Fm,(M id).cap,[]⟩:=by simp[I2]
 have UI:sg (Dn st.hp id (.Ij (F7 (.Fc sz rows.length k))))=sg st.hp:=GB (DH _ _ _) B rfl;have Y:get (Dn st.hp id (.Ij (F7 (.Fc sz rows.length k)))) q=none:=by rw[DH,if_neg (CK EG)];exact hq
 have K9:Ea M (I2 M q ⟨(M id).Fm,(M id).cap,[]⟩) (sg st.hp) (sg I):=by
   rw[<-UI,<-S];exact Je (Rw _ _ _) N Y
 have Z:sg I q=some (.arr 1 rows.length):=by simp[sg,Dr,AO.sg]
 have OT:∀b,F b->(F b∨∃(i:Nat) (E:Nat×Nat),(M id).xs[i]?=some E/\E.2≠0/\b=E.1):=λ b h=> .inl h;refine ⟨λ b=>F b∨∃(i:Nat) (E:Nat×Nat),(M id).xs[i]?=some E/\E.2≠0/\b=E.1,I2 M q ⟨(M id).Fm,(M id).cap,[]⟩,?_,OT,K9,?_⟩
 . constructor
   . intro s d T;exact (z.env s d T).keep (λ _ _=>rfl) OT K9
   . exact z.size
   . exact z.defers
   . constructor
     . intro j o f;rw[Dr] at f;by_cases p:j=q
       . subst p;rw[if_pos rfl] at f;cases f;rw[Mo];refine ⟨AQ,by simpa using Q.le,Q.max,λ i x hx=>?_,λ hc=>?_⟩
         . rw[BD] at hx;cases JE:rows[i]? with
           | none=>rw[JE] at hx;cases hx
           | some r=>rw[JE] at hx;cases hx;rfl
         . obtain ⟨h5,row,h6,h7,h8⟩:=Q.outer hc;refine ⟨?_,row,.of0 h6,by simpa using h7,λ i x j2 y hx hy=>?_⟩
           . rintro (h | ⟨i,E,hx,Xx,he⟩)
             . exact h5 h
             . exact Q.out i E hx Xx hc he.symm
           . rw[BD] at hx;cases JE:rows[i]? with
             | none=>rw[JE] at hx;cases hx
             | some r=>
               rw[JE] at hx;cases hx;cases j2 with
               | succ j2=>simp at hy
               | zero=>
                 simp only[BE,Bo] at hy;subst hy;have hi:=(Bn.1 JE).1;have K:i<(M id).xs.length:=by rw[Q.xl];exact hi
                 obtain ⟨ad,h9,XB⟩:=h8 i r _ JE (Bp K) AT;rw[Nat.mul_one,B9,h9];exact (Q.rows i r _ JE (Bp K) AT).pure OT (λ Xx=> .inr ⟨i,_,Bp K,Xx,rfl⟩) XB
       . rw[if_neg p] at f;rw[N j p];by_cases g:j=id
         . rw[if_pos g] at f;cases f;trivial
         . rw[if_neg g] at f;refine (z.heap.obj j o f).keep (λ _ _=>rfl) OT K9 (λ b DD=>⟨rfl,?_⟩);rintro (h | h)
           . exact z.heap.PH ⟨j,o,f,DD⟩ h
           . exact g (z.heap.inj j o id _ b f B DD (.inr h))
     . intro j o H o2 b f I4 DD FB;rw[Dr] at f I4;by_cases p:j=q
       . rw[if_pos p] at f;cases f;rw[p,Mo] at DD;by_cases l:H=q
         . rw[p,l]
         . rw[if_neg l] at I4;by_cases g:H=id
           . rw[if_pos g] at I4;cases I4;exact FB.elim
           . rw[if_neg g] at I4;rw[N H l] at FB;exact (g (z.heap.inj H o2 id _ b I4 B FB (.inl DD))).elim
       . rw[if_neg p] at f;rw[N j p] at DD;by_cases g:j=id
         . rw[if_pos g] at f;cases f;exact DD.elim
         . rw[if_neg g] at f;by_cases l:H=q
           . rw[if_pos l] at I4;cases I4;rw[l,Mo] at FB;exact (g (z.heap.inj j o id _ b f B DD (.inl FB))).elim
           . rw[if_neg l] at I4;rw[N H l] at FB;by_cases R:H=id
             . rw[if_pos R] at I4;cases I4;exact FB.elim
             . rw[if_neg R] at I4;exact z.heap.inj j o H o2 b f I4 DD FB
   . have u:=z.keep;refine ⟨u.os,u.tape,u.output,u.size,u.Ua,λ b h=> .inl (u.F0 b h),?_,?_,?_,u.sgk.trans K9,u.s0b⟩
     . rintro b (h | h)
       . exact u.Fn b h
       . rcases u.own _ ⟨id,_,B,.inr h⟩ with W | W
         . exact .inr (.inl W)
         . exact .inr (.inr W)
     . rintro b (h | h)
       . exact u.Fl b h
       . exact z.heap.lt ⟨id,_,B,.inr h⟩
     . rintro b ⟨j,o,f,DD⟩;rw[Dr] at f;by_cases p:j=q
       . rw[if_pos p] at f;cases f;rw[p,Mo] at DD;exact u.own _ ⟨id,_,B,.inl DD⟩
       . rw[if_neg p] at f;rw[N j p] at DD;by_cases g:j=id
         . rw[if_pos g] at f;cases f;exact DD.elim
         . rw[if_neg g] at f;exact u.own _ ⟨j,o,f,DD⟩
 . intro v hv;cases hv with
   | E3 _ _ ZC m k2 _ T hN hv h2=>
     rw[DT B] at T;simp only[AO.sg,Bo,Sg.Fc.injEq] at T;obtain ⟨rfl,rfl,rfl⟩:=T;obtain ⟨ad,cp,h3,_⟩:=hv;refine .ref q 0 _ _ 1 _ v Z (Bk _) ⟨_,_,_,h3⟩ (λ _=>?_);obtain ⟨U,V,g1,g2,g3,g4,g5⟩:=h2 rfl;exact ⟨U,V,g1,g2,g3,by rw[Mo];exact g4,by rw[Mo];exact g5⟩
end
theorem C3.wk{P}{f}{args}{h}{R R':Hp->D->Prop}(g:C3 P f args h R)(hR:∀h' r,R h' r->∃h2,Wk ⟨[(0,r)],h',1⟩ ⟨[(0,r)],h2,1⟩/\R' h2 r):C3 P f args h R':=by
 intro l w F M Qp Uh Xn i;refine (g l w F M Qp Uh Xn i).mono ?_;rintro e m ⟨v,h',r,F',M',rfl,k,XA,Ym,j⟩;obtain ⟨h2,Rp,JE⟩:=hR h' r k;have Akl:Rel ⟨w,F,Hn M h,M,sg h⟩ ⟨[(0,r)],h',1⟩ ⟨#[v],[]⟩ m F' M':=⟨λ t d a=>by
   simp only[Dj] at a;split at a
   . rename_i b;cases a;subst b;simpa using Ym
   . simp[get] at a,rfl,rfl,XA,j⟩
 obtain ⟨F2,M2,Xp⟩:=Rp _ _ _ _ _ Akl;refine ⟨v,h2,r,F2,M2,rfl,JE,Xp.heap,?_,Xp.keep⟩;have:=Xp.env 0 r (by simp[Dj])
 simpa using this
theorem Wk.Aiu{st}{id j}{cs}{ty}{es}(hb:get st.hp id=some (.box cs ty))(l:cs[j]?=some (.cl es)):Wk st ⟨st.env,Dn st.hp id (.box (cs.set j (sD es)) ty),st.n⟩:=by
 intro c a w F M q;have Dr:∀i,get (Dn st.hp id (.box (cs.set j (sD es)) ty)) i=if i=id then some (.box (cs.set j (sD es)) ty) else get st.hp i:=DH _ _ _
 have Lz:=GB Dr hb rfl;obtain ⟨V3,row,t,Ek,HK,D4⟩:=q.heap.obj id _ hb;refine ⟨F,M,?_⟩;refine q.change Dr (λ _ _=>rfl) (by rw[Lz];exact Ea.refl _ _) rfl rfl rfl (Bk _) (λ _ _ _=>rfl) ?_ (λ b g=> .inl ⟨_,hb,g⟩);refine ⟨V3,row,t,Ek,by simpa using HK,λ i d f=>?_,λ r s i k=>?_⟩;rotate_left
 . refine D4.2 r ?_ i ?_
   . obtain ⟨x,hx,o⟩:=Cf.1 s;rcases List.mem_or_eq_of_mem_set hx with u | rfl
     . exact Cf.2 ⟨x,u,o⟩
     . cases o
   . by_cases e:i=j
     . subst e;rw[CH (Bn.1 l).1] at k;cases k
     . rwa[List.getElem?_set_ne (CK e)] at k
 rw[Lz];by_cases e:i=j
 . subst e;have Dv:=(Bn.1 l).1;rw[CH Dv] at f;cases f;have h2:=D4.1 i _ l;refine ⟨?_,h2.2⟩;have m:=h2.1;generalize row.getD i undef=v at m;cases m with | cl _ y h _=>exact .p h
 . rw[List.getElem?_set_ne (CK e)] at f;exact D4.1 i d f
theorem C3.Bj2{P}{f}{args}{m sz k}{b t e}{es rows}{rws}
   (a:C3 P f args [] λ h' d=>∃j:Nat,h'=[(0,.arr b k es),(1,.Fc t e sz j rws none)]/\d= .agg [.ref 0 0 m m,.E3 1 rws.length]) (Ad1:rws.map (λ r=>[Pd.sl r])=rows):
   C3 P f args [] λ h' d=>h'=[(0,.arr b k es),(1,.arr t 1 rows)]/\d= .agg [.ref 0 0 m m,rD 1 rws]:=by
 subst Ad1;intro K w F M Qp Uh Xn z;refine (a K w F M Qp Uh Xn z).mono ?_;rintro Q o ⟨v,h',r,F',M',rfl,⟨j,rfl,rfl⟩,XA,Ym,B⟩;have Akl:Rel ⟨w,F,Hn M [],M,sg []⟩ ⟨[],[(0,.arr b k es),(1,.Fc t e sz j rws none)],0⟩ ⟨#[],[]⟩ o F' M':=⟨λ t d H=>by simp[get] at H,rfl,rfl,XA,B⟩;obtain ⟨F2,M2,Xp,l,Byl,n⟩:=Akl.Bnk (id:=1) (q:=2) (by rfl) (by rfl);have J9:DR F2 o M2 (sg ((2,.arr t 1 (rws.map λ r=>[.sl r]))::Dn [(0,.arr b k es),(1,.Fc t e sz j rws none)] 1 (.Ij (F7 (.Fc sz rws.length j))))) (.agg [.ref 0 0 m m,rD 2 rws]) v:=by
   cases Ym with
   | agg _ N E g=>
     refine .agg _ _ E (λ i c a=>?_)
     match i,a with
     | 0,a=>cases a;exact (g 0 _ rfl).keep (λ _ _=>rfl) l Byl
     | 1,a=>cases a;exact n _ (g 1 _ rfl)
     | i+2,a=>simp at a
 obtain ⟨p,I,M3,s,u,x,y⟩:=N6 (R:=λ h' d=>h'=[(0,.arr b k es),(1,.arr t 1 (rws.map λ r=>[Pd.sl r]))]/\d= .agg [.ref 0 0 m m,rD 1 rws]) Xp (h0:=[]) rfl (λ _=>Iff.rfl) J9 (by
   simp[R8,Dn,FO,Ig,ML,V5,ghost,D.ids,E8,AO.ids,sub,idx,get,D.GA,AO.GA,base,pick,UF,M8,List.filter])
 exact ⟨v,p,I,F2,M3,rfl,s,u,x,y⟩
end Go.Am
end
noncomputable section
namespace Go.Am
open Go Go.Proofs
open Go.IntKind (i64)
open Tryz
set_option maxRecDepth 100000
set_option linter.unusedVariables false
set_option linter.unusedSimpArgs false
set_option maxHeartbeats 2000000
theorem Ba{p:Prop}(h:p:=by simp[ZF,CS]):p:=h
theorem Be5(l)(x)(o:l.length<=10000000):
   C3 prog 18 [sD (CS l),iD x] [] λ h r=>h=[]/\r=bD (decide (x∈l)):=by
 refine Dx func18 rfl Adq (by simp[Tryz.f18]) ?_;simp only[go_sem,C0];refine Dq (λ i=>⟨[(0,.p (.sl (CS l))),(1,.p (.int .i64 x)),(5,.p (.int .i64 (i:Nat)))],[],18⟩) (λ i=>i<=l.length/\x∉l.take i) (λ i=>l.length - i) 0 ⟨BQ _,AT⟩ (Wk.forget Ba) ?_;rintro i n ⟨m,b⟩ k;simp only[go_sem,C0];refine D5 (λ h2=>?_) (λ h2=>?_)
 . have Dv:i<l.length:=by simp at h2;omega
   have j:=DQ i AQ;have f:=Fi l i Dv;have hx:l[i]?=some (l.getD i 0):=by simp[List.getD,Dv]
   have FU:(0:Int)<=(i:Int)/\(i:Int)<(l.length:Int):=AQ;have JN:=IE l i 0 Dv;generalize l.getD i 0=y at*;simp only[go_sem,C0,Be,f,FU];cases a:decide (y=x)
   . simp only[go_sem,a,j];refine k (i+1) _ ⟨Dv,?_⟩ AQ ?_
     . rw[List.take_add_one,hx];have:¬x=y:=λ e=>Bh a e.symm;simp[b,this]
     . (refine Wk.forget ?_;simp[ZF,CS];done)
   . simp only[go_sem,a];have g:x∈l:=by rw[<-Bg a];exact JN
     simp[g]
 . simp only[go_sem];have:i=l.length:=by simp at h2;omega
   subst this;rw[BH] at b;simp[b]
theorem Bjq(l)(x)(o:l.length<=10000000):
   C3 prog 18 [rD 1000000 l,iD x] [(1000000,.arr 3 1 (CS l))] λ h r=>h=[(1000000,.arr 3 1 (CS l))]/\r=bD (decide (x∈l)):=by
 refine Dx func18 rfl Adq (by simp[Tryz.f18]) ?_;simp only[go_sem,C0];refine Dq (λ i=>⟨[(0,.ref 1000000 0 l.length l.length),(1,.p (.int .i64 x)),(5,.p (.int .i64 (i:Nat)))],[(1000000,.arr 3 1 (CS l))],18⟩) (λ i=>i<=l.length/\x∉l.take i) (λ i=>l.length - i) 0 ⟨BQ _,AT⟩ (Wk.forget Ba) ?_;rintro i n ⟨m,b⟩ k;simp only[go_sem,C0];refine D5 (λ h2=>?_) (λ h2=>?_)
 . have Dv:i<l.length:=by simp at h2;omega
   have j:=DQ i AQ;have f:=Fi l i Dv;have hx:l[i]?=some (l.getD i 0):=by simp[List.getD,Dv]
   have FU:(0:Int)<=(i:Int)/\(i:Int)<(l.length:Int):=AQ;have JN:=IE l i 0 Dv;generalize l.getD i 0=y at*;simp only[go_sem,C0,Be,f,FU];cases a:decide (y=x)
   . simp only[go_sem,a,j];refine k (i+1) _ ⟨Dv,?_⟩ AQ ?_
     . rw[List.take_add_one,hx];have:¬x=y:=λ e=>Bh a e.symm;simp[b,this]
     . (refine Wk.forget ?_;simp[ZF,CS];done)
   . simp only[go_sem,a];have g:x∈l:=by rw[<-Bg a];exact JN
     simp[g]
 . simp only[go_sem];have:i=l.length:=by simp at h2;omega
   subst this;rw[BH] at b;simp[b]
theorem Aww(l)(x)(p:l.length<=10000000):
   C3 prog 34 [sD (CS l),iD x] [] λ h r=>h=[]/\r=sD (CS (Tg l x)):=by
 refine Dx func34 rfl Bg1 (by simp[Tryz.f34]) ?_;simp only[go_sem,C0];refine Dq (λ q:Nat×Bool×Aa=>⟨[(0,sD (CS l)),(1,iD x),(5,rD 27 q.2.2),(6,bD q.2.1),(7,iD (q.1:Nat))],[(27,.arr 3 1 (CS q.2.2))],42⟩)
   (λ q=>q.1<=l.length/\q.2.2.length<=q.1+q.2.1.toNat/\q.2.2++(if q.2.1 then l.drop q.1 else Tg (l.drop q.1) x)=Tg l x) (λ q=>l.length - q.1) (0,false,[]) ⟨BQ _,AT,AT⟩ ((Wk.nil (t:=5) (q:=27) (sz:=1) 3 rfl rfl AV).trans (Wk.forget Ba)) ?_
 rintro ⟨i,m,acc⟩ n ⟨o,b,e⟩ k;simp only at o b e;simp only[go_sem,C0];refine D5 (λ h2=>?_) (λ h2=>?_)
 . have Dv:i<l.length:=by simp at h2;omega
   have j:=DQ i AQ;have g:=Fi l i Dv;have FU:(0:Int)<=(i:Int)/\(i:Int)<(l.length:Int):=AQ;rw[Ia l i 0 Dv] at e;generalize l.getD i 0=y at*;cases m
   . cases f:decide (x<y)
     . have a:¬x<y:=Bh f;simp only[go_sem,C0,Be,g,FU,f,a];refine ⟨⟨Lr _ _ rfl,by simp at b;omega⟩,?_⟩;simp only[go_sem,j];refine k (i+1,false,acc++[y]) _ ⟨Dv,by simp at b ⊢;omega,?_⟩ A0 ?_
       . rw[<-e];simp[Tg,a]
       . (refine Wk.forget ?_;simp[ZF,L6,C0];done)
     . have a:x<y:=Bg f;simp only[go_sem,C0,Be,g,FU,f,a];refine ⟨⟨Lr _ _ rfl,by simp at b;omega⟩,⟨Lr _ _ rfl,by simp at b;simp[C0];omega⟩,?_⟩;simp only[go_sem,j];refine k (i+1,true,acc++[x]++[y]) _ ⟨Dv,by simp at b ⊢;omega,?_⟩ A0 ?_
       . rw[<-e];simp[Tg,a]
       . (refine Wk.forget ?_;simp[ZF,CS];done)
   . simp only[go_sem,C0,Be,g,FU];refine ⟨⟨Lr _ _ rfl,by simp at b;omega⟩,?_⟩;simp only[go_sem,j];refine k (i+1,true,acc++[y]) _ ⟨Dv,by simp at b ⊢;omega,?_⟩ A0 ?_
     . rw[<-e];simp
     . (refine Wk.forget ?_;simp[ZF,L6,C0];done)
 . have:i=l.length:=by simp at h2;omega
   subst this;rw[List.drop_length] at e;cases m
   . simp only[go_sem,C0];refine ⟨⟨Lr _ _ rfl,by simp at b;omega⟩,?_⟩;refine Ds ?_;simp only[go_sem];rw[<-e];(try rw[BA (by simp[C0])]);simp[Tg,CS]
   . simp only[go_sem];refine Ds ?_;simp only[go_sem];rw[<-e];simp[Uj,C0]
def Tb(a i:Nat)(l:Aa)(k:Nat):Prop:=0<=l.getD k 0/\l.getD k 0<(a:Int)/\l.getD k 0≠(i:Int)/\(0<k->l.getD (k - 1) 0<l.getD k 0)
instance (nb i:Nat) (l:Aa) (k:Nat):Decidable (Tb nb i l k):=by unfold Tb;exact inferInstance
def UE(a i:Nat)(l:Aa):Prop:=∀k,k<l.length->Tb a i l k
instance (nb i:Nat) (l:Aa):Decidable (UE nb i l):=by unfold UE;exact inferInstance
def PN(g:Ab):Prop:=g.length<=24/\∀i,i<g.length->UE g.length i (g.getD i [])
instance (g:Ab):Decidable (PN g):=by unfold PN;exact inferInstance
def YD(g:Ab):Prop:=g.length<=10000000/\∀r∈g,r.length<=10000000
theorem ND(m)(h:m<9223372036854775807):i64.wrap (((m+1:Nat):Int) - 1)=(m:Int):=by rw[C5]<;>omega
theorem Avw(g)(N:YD g):C3 prog 109 [sD (Dy g)] [] λ h r=>h=[]/\r=bD (decide (PN g)):=by
 obtain ⟨Ww,B⟩:=N;refine Dx func109 rfl Ahx (by simp[Tryz.f109]) ?_;simp only[go_sem,Dt];refine D5 (λ x=>?_) (λ x=>?_)
 . simp only[go_sem];rw[Bj (λ a=>?_)];have:=a.1;simp at x;omega
 have hlen:g.length<=24:=by simp at x;omega
 simp only[go_sem];refine Dq (λ i:Nat=>⟨[(0,.p (.sl (Dy g))),(3,.p (.int .i64 (i:Nat)))],[],60⟩) (λ i=>i<=g.length/\∀j,j<i->UE g.length j (g.getD j [])) (λ i=>g.length - i) 0 ⟨BQ _,λ j q=>absurd q (B6 _)⟩ (Wk.forget (by simp[ZF])) ?_;rintro i n ⟨S,Ad1⟩ R;simp only[go_sem,Dt];refine D5 (λ h2=>?_) (λ h2=>?_);rotate_left
 . simp only[go_sem];have:i=g.length:=by simp at h2;omega
   subst this;rw[Bi ⟨hlen,Ad1⟩]
 have Dv:i<g.length:=by simp at h2;omega
 have Q:=DQ i AQ;have H:=B _ (IE g i [] Dv);have Rv:=QF g i Dv;have Nw:¬UE g.length i (g.getD i [])->decide (PN g)=false:=λ h=>Bj (λ a=>h (a.2 i Dv));have Qm:UE g.length i (g.getD i [])->∀j,j<i+1->UE g.length j (g.getD j []):=λ h j q=>by
   rcases BL.1 q with s | rfl
   . exact Ad1 j s
   . exact h
 generalize g.getD i []=r at H Rv Nw Qm;have FU:(0:Int)<=(i:Int)/\(i:Int)<(g.length:Int):=AQ;simp only[go_sem];refine Dq (λ k:Nat=>⟨[(0,.p (.sl (Dy g))),(3,.p (.int .i64 (i:Nat))),(4,.p (.int .i64 (k:Nat)))],[],60⟩) (λ k=>k<=r.length/\∀j,j<k->Tb g.length i r j) (λ k=>r.length - k) 0 ⟨BQ _,λ j q=>absurd q (B6 _)⟩ (Wk.forget (by simp[ZF])) ?_;rintro k U ⟨T,Ru⟩ VZ;simp only[go_sem,Dt,C0,Be,Rv,FU];refine D5 (λ s=>?_) (λ s=>?_);rotate_left
 . have:k=r.length:=by simp at s;omega
   subst this;simp only[go_sem,Q];refine R (i+1) _ ⟨Dv,Qm Ru⟩ AQ ?_
   (refine Wk.forget ?_;simp[ZF];done)
 have Uf:k<r.length:=by simp at s;omega
 have Rp:=DQ k AQ;have UL:=Fi r k Uf;have Lo:(0:Int)<=(k:Int)/\(k:Int)<(r.length:Int):=AQ;have PW:Tb g.length i r k↔(0<=r.getD k 0/\r.getD k 0<(g.length:Int)/\r.getD k 0≠(i:Int)/\(0<k->r.getD (k - 1) 0<r.getD k 0)):=Iff.rfl;have EG:¬Tb g.length i r k->decide (PN g)=false:=λ h=>Nw (λ a=>h (a k Uf));have Anv:Tb g.length i r k->∀j,j<k+1->Tb g.length i r j:=λ h j q=>by
   rcases BL.1 q with K | rfl
   . exact Ru j K
   . exact h
 rcases k with _ | m
 . have l:(0:Int)<(r.length:Int):=AQ;have I:i64.wrap (0+1)=1:=rfl;generalize r.getD 0 0=y at UL PW;cases b:decide (y<0);rotate_left
   . simp only[go_sem,Dt,C0,Be,Rv,FU,UL,l,b];rw[EG (λ a=>by have:=PW.1 a;simp at b;omega)]
   cases e:decide ((g.length:Int)<=y);rotate_left
   . simp only[go_sem,Dt,C0,Be,Rv,FU,UL,l,b,e];rw[EG (λ a=>by have:=PW.1 a;simp at e;omega)]
   cases f:decide (y=(i:Int));rotate_left
   . simp only[go_sem,Dt,C0,Be,Rv,FU,UL,l,b,e,f];rw[EG (λ a=>by have:=PW.1 a;simp at f;omega)]
   simp only[go_sem,Dt,C0,Be,Rv,FU,UL,l,b,e,f,I];refine VZ (0+1) _ ⟨Uf,Anv (PW.2 (by simp at b e f;exact ⟨AQ,AQ,f,λ h=>absurd h (Nat.lt_irrefl _)⟩))⟩ AQ ?_
   (refine Wk.forget ?_;simp[ZF];done)
 . have E:m<r.length:=AQ;have o:=Fi r m E;have u:(0:Int)<=(m:Int)/\(m:Int)<(r.length:Int):=AQ;have v:=ND m AQ;have t:(0:Int)<((m+1:Nat):Int):=AQ;rw[show m+1 - 1=m from rfl] at PW;generalize r.getD (m+1) 0=y at UL PW;generalize r.getD m 0=z at o PW;cases b:decide (y<0);rotate_left
   . simp only[go_sem,Dt,C0,Be,Rv,FU,UL,Lo,b];rw[EG (λ a=>by have:=PW.1 a;simp at b;omega)]
   cases e:decide ((g.length:Int)<=y);rotate_left
   . simp only[go_sem,Dt,C0,Be,Rv,FU,UL,Lo,b,e];rw[EG (λ a=>by have:=PW.1 a;simp at e;omega)]
   cases f:decide (y=(i:Int));rotate_left
   . simp only[go_sem,Dt,C0,Be,Rv,FU,UL,Lo,b,e,f];rw[EG (λ a=>by have:=PW.1 a;simp at f;omega)]
   cases w:decide (y<=z);rotate_left
   . simp only[go_sem,Dt,C0,Be,Rv,FU,UL,Lo,o,u,v,t,b,e,f,w];rw[EG (λ a=>by have:=(PW.1 a).2.2.2 AQ;simp at w;omega)]
   simp only[go_sem,Dt,C0,Be,Rv,FU,UL,Lo,o,u,v,t,b,e,f,w,Rp];refine VZ (m+1+1) _ ⟨Uf,Anv (PW.2 (by simp at b e f w;exact ⟨AQ,AQ,f,λ _=>AQ⟩))⟩ AQ ?_
   (refine Wk.forget ?_;simp[ZF];done)
def xyP(b:Blk):Prop:=-9999<=b.x/\b.x<=9999/\-9999<=b.y/\b.y<=9999
instance (b:Blk):Decidable (xyP b):=by unfold xyP;exact inferInstance
def Nz(n:Nt):Prop:=1<=n.blocks.length/\n.blocks.length<=24/\n.next.length=n.blocks.length/\∀i,i<n.blocks.length->xyP (n.blocks.getD i TT)/\(n.next.getD i []).length<=4/\UE n.blocks.length i (n.next.getD i [])
instance (n:Nt):Decidable (Nz n):=by unfold Nz;exact inferInstance
theorem Bay(n)(hb:n.blocks.length<=10000000)(hg:YD n.next):C3 prog 63 [.agg n.cs] [] λ h r=>h=[]/\r=bD (decide (Nz n)):=by
 obtain ⟨Ww,S⟩:=hg;obtain ⟨a,o,Y,W,N,H,I,K⟩:=n;simp only at hb Ww S;refine Dx func63 rfl Bfg (by simp[Tryz.f63]) ?_;cases u:decide ((a.length:Int)<1);rotate_left
 . simp only[go_sem,Nt.cs,DA,Dt,u];rw[Bj (λ e=>by have:=e.1;have hd:=Bg u;simp only at this;omega)]
 cases B:decide (24<(a.length:Int));rotate_left
 . simp only[go_sem,Nt.cs,DA,Dt,u,B];rw[Bj (λ e=>by have:=e.2.1;simp at B;simp only at this;omega)]
 cases Q:decide ((o.length:Int)=(a.length:Int))
 . simp only[go_sem,Nt.cs,DA,Dt,u,B,Q];rw[Bj (λ e=>by have:=e.2.2.1;have hd:=Bh Q;simp only at this;omega)]
 have Z:1<=a.length:=by have:=Bh u;omega
 have a0:a.length<=24:=by have:=Bh B;omega
 have a1:o.length=a.length:=by have:=Bg Q;omega
 simp only[go_sem,Nt.cs,DA,Dt,u,B,Q];clear u B Q;refine Dq (λ i:Nat=>⟨[(1,.ptr 1 0),(3,.p (.int .i64 (i:Nat)))],[(1,.box (Nt.cs ⟨a,o,Y,W,N,H,I,K⟩))],114⟩) (λ i=>i<=a.length/\∀j,j<i->xyP (a.getD j TT)/\(o.getD j []).length<=4/\UE a.length j (o.getD j [])) (λ i=>a.length - i) 0 ⟨BQ _,λ j w=>absurd w (B6 _)⟩ (Wk.forget (by simp[ZF,Nt.cs])) ?_;rintro i n ⟨hi,Ad1⟩ ih;simp only[go_sem,Nt.cs,DA];refine D5 (λ h2=>?_) (λ h2=>?_);rotate_left
 . simp only[go_sem];have:i=a.length:=by simp at h2;omega
   subst this;rw[Bi ⟨Z,a0,a1,Ad1⟩]
 have Dv:i<a.length:=by simp at h2;omega
 have hw:=DQ i AQ;have a4:=S _ (IE o i [] AQ);have Rv:=QF o i AQ;have q:=Ap2 a i Dv;have ZX:¬(xyP (a.getD i TT)/\(o.getD i []).length<=4/\UE a.length i (o.getD i []))->decide (Nz ⟨a,o,Y,W,N,H,I,K⟩)=false:=λ h=>Bj (λ e=>h (e.2.2.2 i Dv));have Asm:(xyP (a.getD i TT)/\(o.getD i []).length<=4/\UE a.length i (o.getD i []))->∀j,j<i+1->xyP (a.getD j TT)/\(o.getD j []).length<=4/\UE a.length j (o.getD j []):=λ h j w=>by
   rcases BL.1 w with R | rfl
   . exact Ad1 j R
   . exact h
 generalize o.getD i []=r at a4 Rv ZX Asm;generalize a.getD i TT=b at q ZX Asm;have FU:(0:Int)<=(i:Int)/\(i:Int)<(o.length:Int):=AQ;have Og:(i:Int)<(a.length:Int):=AQ;cases f:decide (b.x< -9999);rotate_left
 . simp only[go_sem,Dt,DA,C0,Nt.cs,Be,Rv,q,FU,Og,f];rw[ZX (λ e=>by have:=e.1.1;simp at f;omega)]
 cases g:decide (9999<b.x);rotate_left
 . simp only[go_sem,Dt,DA,C0,Nt.cs,Be,Rv,q,FU,Og,f,g];rw[ZX (λ e=>by have:=e.1.2.1;simp at g;omega)]
 cases l:decide (b.y< -9999);rotate_left
 . simp only[go_sem,Dt,DA,C0,Nt.cs,Be,Rv,q,FU,Og,f,g,l];rw[ZX (λ e=>by have:=e.1.2.2.1;simp at l;omega)]
 cases s:decide (9999<b.y);rotate_left
 . simp only[go_sem,Dt,DA,C0,Nt.cs,Be,Rv,q,FU,Og,f,g,l,s];rw[ZX (λ e=>by have:=e.1.2.2.2;simp at s;omega)]
 cases E:decide (4<(r.length:Int));rotate_left
 . simp only[go_sem,Dt,DA,C0,Nt.cs,Be,Rv,q,FU,Og,f,g,l,s,E];rw[ZX (λ e=>by have:=e.2.1;simp at E;omega)]
 simp only[go_sem,Dt,DA,C0,Nt.cs,Be,Rv,q,FU,Og,f,g,l,s,E];have a6:xyP b:=by simp at f g l s;exact ⟨f,g,l,s⟩
 have a3:r.length<=4:=by simp at E;omega
 clear f g l s E;have Nw:¬UE a.length i r->decide (Nz ⟨a,o,Y,W,N,H,I,K⟩)=false:=λ h=>ZX (λ e=>h e.2.2);have Qm:UE a.length i r->∀j,j<i+1->xyP (a.getD j TT)/\(o.getD j []).length<=4/\UE a.length j (o.getD j []):=λ h=>Asm ⟨a6,a3,h⟩;refine Dq (λ k:Nat=>⟨[(1,.ptr 1 0),(3,.p (.int .i64 (i:Nat))),(4,.ptr 4 0),(5,.p (.int .i64 (k:Nat)))],[(1,.box (Nt.cs ⟨a,o,Y,W,N,H,I,K⟩)),(4,.box [.p (.str b.name),.p (.int .i64 b.x),.p (.int .i64 b.y)])],114⟩) (λ k=>k<=r.length/\∀j,j<k->Tb a.length i r j) (λ k=>r.length - k) 0 ⟨BQ _,λ j w=>absurd w (B6 _)⟩ (Wk.forget (by simp[ZF,Nt.cs])) ?_;rintro k n2 ⟨hk,Ru⟩ VZ;simp only[go_sem,Dt,DA,C0,Nt.cs,Be,Rv,FU,Og];refine D5 (λ R=>?_) (λ R=>?_);rotate_left
 . have:k=r.length:=by simp at R;omega
   subst this;simp only[go_sem,hw];refine ih (i+1) _ ⟨Dv,Qm Ru⟩ AQ ?_
   (refine Wk.forget ?_;simp[ZF,Nt.cs];done)
 have Uf:k<r.length:=by simp at R;omega
 have Rp:=DQ k AQ;have UL:=Fi r k Uf;have Lo:(0:Int)<=(k:Int)/\(k:Int)<(r.length:Int):=AQ;have PW:Tb a.length i r k↔(0<=r.getD k 0/\r.getD k 0<(a.length:Int)/\r.getD k 0≠(i:Int)/\(0<k->r.getD (k - 1) 0<r.getD k 0)):=Iff.rfl;have EG:¬Tb a.length i r k->decide (Nz ⟨a,o,Y,W,N,H,I,K⟩)=false:=λ h=>Nw (λ e=>h (e k Uf));have Anv:Tb a.length i r k->∀j,j<k+1->Tb a.length i r j:=λ h j w=>by
   rcases BL.1 w with h4 | rfl
   . exact Ru j h4
   . exact h
 rcases k with _ | m
 . have t:(0:Int)<(r.length:Int):=AQ;have a5:i64.wrap (0+1)=1:=rfl;generalize r.getD 0 0=y at UL PW;cases f:decide (y<0);rotate_left
   . simp only[go_sem,Dt,DA,C0,Nt.cs,Be,Rv,FU,Og,UL,t,f];rw[EG (λ e=>by have:=PW.1 e;simp at f;omega)]
   cases g:decide ((a.length:Int)<=y);rotate_left
   . simp only[go_sem,Dt,DA,C0,Nt.cs,Be,Rv,FU,Og,UL,t,f,g];rw[EG (λ e=>by have:=PW.1 e;simp at g;omega)]
   cases l:decide (y=(i:Int));rotate_left
   . simp only[go_sem,Dt,DA,C0,Nt.cs,Be,Rv,FU,Og,UL,t,f,g,l];rw[EG (λ e=>by have:=PW.1 e;simp at l;omega)]
   simp only[go_sem,Dt,DA,C0,Nt.cs,Be,Rv,FU,Og,UL,t,f,g,l,a5];refine VZ (0+1) _ ⟨Uf,Anv (PW.2 (by simp at f g l;exact ⟨AQ,AQ,l,λ h=>absurd h (Nat.lt_irrefl _)⟩))⟩ AQ ?_
   (refine Wk.forget ?_;simp[ZF,Nt.cs];done)
 . have a2:m<r.length:=AQ;have v:=Fi r m a2;have U:(0:Int)<=(m:Int)/\(m:Int)<(r.length:Int):=AQ;have V:=ND m AQ;have T:(0:Int)<((m+1:Nat):Int):=AQ;rw[show m+1 - 1=m from rfl] at PW;generalize r.getD (m+1) 0=y at UL PW;generalize r.getD m 0=z at v PW;cases f:decide (y<0);rotate_left
   . simp only[go_sem,Dt,DA,C0,Nt.cs,Be,Rv,FU,Og,UL,Lo,f];rw[EG (λ e=>by have:=PW.1 e;simp at f;omega)]
   cases g:decide ((a.length:Int)<=y);rotate_left
   . simp only[go_sem,Dt,DA,C0,Nt.cs,Be,Rv,FU,Og,UL,Lo,f,g];rw[EG (λ e=>by have:=PW.1 e;simp at g;omega)]
   cases l:decide (y=(i:Int));rotate_left
   . simp only[go_sem,Dt,DA,C0,Nt.cs,Be,Rv,FU,Og,UL,Lo,f,g,l];rw[EG (λ e=>by have:=PW.1 e;simp at l;omega)]
   cases s:decide (y<=z);rotate_left
   . simp only[go_sem,Dt,DA,C0,Nt.cs,Be,Rv,FU,Og,UL,Lo,v,U,V,T,f,g,l,s];rw[EG (λ e=>by have:=(PW.1 e).2.2.2 AQ;simp at s;omega)]
   simp only[go_sem,Dt,DA,C0,Nt.cs,Be,Rv,FU,Og,UL,Lo,v,U,V,T,f,g,l,s,Rp];refine VZ (m+1+1) _ ⟨Uf,Anv (PW.2 (by simp at f g l s;exact ⟨AQ,AQ,l,λ _=>AQ⟩))⟩ AQ ?_
   (refine Wk.forget ?_;simp[ZF,Nt.cs];done)
def Kk(n:Nt):Ae:=n.blocks.map Blk.name++n.CT.map Sf.name
def VT(n:Nt):Prop:=∀i,i<(Kk n).length->ME ((Kk n).getD i [])=true/\∀k,k<i->(Kk n).getD i []≠(Kk n).getD k []
instance (n:Nt):Decidable (VT n):=by unfold VT;exact inferInstance
theorem U9{α β:Type}(f:α->β)(l:List α)(i)(x:α)(h:i<l.length):(l.take (i+1)).map f=(l.take i).map f++[f (l.getD i x)]:=by
 rw[List.take_add_one,List.map_append,List.getD,Bp h];rfl
theorem Bcv(n)(hb:n.blocks.length<=10000000)(I:n.CT.length<=10000000):C3 prog 64 [.agg n.cs] [] λ h r=>h=[]/\r=bD (decide (VT n)):=by
 generalize w:Kk n=L;have x:L.length=n.blocks.length+n.CT.length:=by rw[<-w];simp[Kk]
 refine Dx func64 rfl Bff (by simp[Tryz.f64]) ?_;simp only[go_sem,Nt.cs];refine Dq (λ i:Nat=>⟨[(1,.ptr 1 0),(3,.ref 23 0 i i),(4,.p (.int .i64 (i:Nat)))],[(1,.box (Nt.cs n)),(23,.arr 9 1 (El ((n.blocks.take i).map Blk.name)))],66⟩) (λ i=>i<=n.blocks.length) (λ i=>n.blocks.length - i) 0 (BQ _) ((Wk.nil (t:=3) (q:=23) (sz:=1) 9 rfl rfl AV).trans (Wk.forget (by simp[ZF,Nt.cs,El]))) ?_;rintro i m E f;have a:(El ((n.blocks.take i).map Blk.name)).length=i:=by rw[DJ];simp;omega
 simp only[go_sem,Nt.cs,DA];refine D5 (λ h2=>?_) (λ h2=>?_)
 . have Dv:i<n.blocks.length:=by simp at h2;omega
   have g:=DQ i AQ;have b:=Ap2 n.blocks i Dv;have FU:(0:Int)<=(i:Int)/\(i:Int)<(n.blocks.length:Int):=AQ;simp only[go_sem,DA,Nt.cs,Be,b,FU,a];refine ⟨⟨Lr _ _ rfl,AQ⟩,?_⟩;simp only[go_sem,g];refine f (i+1) _ Dv AQ ?_
   (refine Wk.forget ?_;simp[ZF,Nt.cs,U9 Blk.name n.blocks i TT Dv,GH,a,-List.map_take];done)
 have:i=n.blocks.length:=by simp at h2;omega
 subst this;clear f a;simp only[go_sem];refine Dq (λ i:Nat=>⟨[(1,.ptr 1 0),(3,.ref 23 0 (n.blocks.length+i) (n.blocks.length+i)),(5,.p (.int .i64 (i:Nat)))],[(1,.box (Nt.cs n)),(23,.arr 9 1 (El (n.blocks.map Blk.name++(n.CT.take i).map Sf.name)))],66⟩) (λ i=>i<=n.CT.length) (λ i=>n.CT.length - i) 0 (BQ _) (Wk.forget (by simp[ZF,Nt.cs,El])) ?_;rintro i K H8 f;have a:(El (n.blocks.map Blk.name++(n.CT.take i).map Sf.name)).length=n.blocks.length+i:=by rw[DJ];simp;omega
 simp only[go_sem,Nt.cs,D9];refine D5 (λ h2=>?_) (λ h2=>?_)
 . have Dv:i<n.CT.length:=by simp at h2;omega
   have g:=DQ i AQ;have b:=Om n.CT i Dv;have FU:(0:Int)<=(i:Int)/\(i:Int)<(n.CT.length:Int):=AQ;simp only[go_sem,D9,Nt.cs,Be,b,FU,a];refine ⟨⟨Lr _ _ rfl,AQ⟩,?_⟩;simp only[go_sem,g];refine f (i+1) _ Dv AQ ?_
   (refine Wk.forget ?_;simp[ZF,Nt.cs,U9 Sf.name n.CT i EY Dv,GH,<-List.append_assoc,Nat.add_assoc,a,-List.map_take];done)
 have:i=n.CT.length:=by simp at h2;omega
 subst this;clear f a;rw[BH,show n.blocks.map Blk.name++n.CT.map Sf.name=L from w,<-x];simp only[go_sem];have y:VT n↔∀i,i<L.length->ME (L.getD i [])=true/\∀k,k<i->L.getD i []≠L.getD k []:=by unfold VT;rw[w]
 refine Dq (λ i:Nat=>⟨[(3,.ref 23 0 L.length L.length),(6,.p (.int .i64 (i:Nat)))],[(23,.arr 9 1 (El L))],66⟩) (λ i=>i<=L.length/\∀j,j<i->ME (L.getD j [])=true/\∀k,k<j->L.getD j []≠L.getD k []) (λ i=>L.length - i) 0 ⟨BQ _,λ j e=>absurd e (B6 _)⟩ (Wk.forget (by simp[ZF,Nt.cs,El])) ?_;rintro i N ⟨B,FE⟩ f;simp only[go_sem,DJ];refine D5 (λ s=>?_) (λ s=>?_);rotate_left
 . simp only[go_sem];have:i=L.length:=by simp at s;omega
   subst this;rw[Bi (y.2 FE)];try simp
 have Dv:i<L.length:=by simp at s;omega
 have g:=DQ i AQ;have Rv:=MP L i Dv;have FU:(0:Int)<=(i:Int)/\(i:Int)<(L.length:Int):=AQ;simp only[go_sem,DJ,Be,Rv,FU];refine Cq ((Anh _)) ?_;cases o:ME (L.getD i [])
 . simp only[go_sem,o];rw[Bj (λ z=>by have:=(y.1 z i Dv).1;rw[o] at this;cases this)];try simp
 simp only[go_sem,o];refine Dq (λ k:Nat=>⟨[(3,.ref 23 0 L.length L.length),(6,.p (.int .i64 (i:Nat))),(7,.p (.int .i64 (k:Nat)))],[(23,.arr 9 1 (El L))],66⟩) (λ k=>k<=i/\∀j,j<k->L.getD i []≠L.getD j []) (λ k=>i - k) 0 ⟨BQ _,λ j e=>absurd e (B6 _)⟩ (Wk.forget (by simp[ZF,El])) ?_;rintro k Q ⟨H,EG⟩ VZ;simp only[go_sem];refine D5 (λ u=>?_) (λ u=>?_)
 . have Uf:k<i:=by simp at u;omega
   have Rp:=DQ k AQ;have UL:=MP L k AQ;have Lo:(0:Int)<=(k:Int)/\(k:Int)<(L.length:Int):=AQ;simp only[go_sem];refine Yb [(23,.arr 9 1 (El L))] mixed (p:=[(0,0),(1,0),(2,0),(3,0),(4,0),(5,0),(6,0),(7,0),(8,0)]) AY A7 ?_;simp only[go_sem,DJ,Be,Rv,FU,UL,Lo];cases l:decide (L.getD i []=L.getD k [])
   . simp only[go_sem,l,Rp];refine VZ (k+1) _ ⟨Uf,λ j e=>?_⟩ AQ ?_
     . rcases BL.1 e with v | rfl
       . exact EG j v
       . exact Bh l
     . (refine Wk.forget ?_;simp[ZF];done)
   . simp only[go_sem,l];rw[Bj (λ z=>(y.1 z i Dv).2 k Uf (Bg l))];try simp
 . have:k=i:=by simp at u;omega
   subst this;simp only[go_sem,g];refine f (k+1) _ ⟨Dv,λ j e=>?_⟩ AQ ?_
   . rcases BL.1 e with v | rfl
     . exact FE j v
     . exact ⟨o,EG⟩
   . (refine Wk.forget ?_;simp[ZF];done)
def UM(f a b e:Int):Prop:=1<=f/\f<=8/\0<=a/\a<=4/\0<=b/\b<=3/\1<=e/\e<=16
instance (cq ca cd cp:Int):Decidable (UM cq ca cd cp):=by unfold UM;exact inferInstance
theorem Ag7(cq ca cd cp):C3 prog 65 [.agg [iD cq,iD ca,iD cd,iD cp]] [] λ h r=>h=[]/\r=bD (decide (UM cq ca cd cp)):=by
 refine Dx func65 rfl Bfe (by simp[Tryz.f65]) ?_;by_cases a:1<=cq;rotate_left
 . simp only[go_sem,a];simp[UM,a]
 by_cases h2:cq<=8;rotate_left
 . simp only[go_sem,a,h2];simp[UM,h2]
 by_cases b:0<=ca;rotate_left
 . simp only[go_sem,a,h2,b];simp[UM,b]
 by_cases e:ca<=4;rotate_left
 . simp only[go_sem,a,h2,b,e];simp[UM,e]
 by_cases f:0<=cd;rotate_left
 . simp only[go_sem,a,h2,b,e,f];simp[UM,f]
 by_cases g:cd<=3;rotate_left
 . simp only[go_sem,a,h2,b,e,f,g];simp[UM,g]
 by_cases i:1<=cp;rotate_left
 . simp only[go_sem,a,h2,b,e,f,g,i];simp[UM,i]
 by_cases j:cp<=16
 . simp only[go_sem,a,h2,b,e,f,g,i,j];simp[UM,a,h2,b,e,f,g,i,j]
 . simp only[go_sem,a,h2,b,e,f,g,i,j];simp[UM,j]
theorem J3(l):(Dl l).length=l.length:=by simp[Dl]
theorem MO{α:Type}(l:List α)(i j)(x y:α):(l.set i x).getD j y=if i=j/\i<l.length then x else l.getD j y:=by
 simp only[List.getD,BG];by_cases h:i=j
 . subst h;by_cases h2:i<l.length
   . simp[h2]
   . simp[h2]
 . simp[h]
def WC(g:Ab)(sh:Ac)(d:Int)(v:Nat)(o:Aa):Aa:=
 if sh.getD v false=true∨0<=o.getD v 0 then o else if (g.getD v []).any (λ w=>decide (o.getD w.toNat 0=d - 1))=true then o.set v d else o
def UT(g:Ab)(sh:Ac)(d:Int):Nat->Nat->Aa->Aa
 | 0,_,o=>o
 | f+1,v,o=>UT g sh d f (v+1) (WC g sh d v o)
def X7(g:Ab)(sh:Ac):Nat->Nat->Aa->Aa
 | 0,_,o=>o
 | f+1,d,o=>X7 g sh f (d+1) (UT g sh d g.length 0 o)
def IF(g:Ab)(sh:Ac)(EN:Nat):Aa:=
 if sh.getD EN false=true then List.replicate g.length (-1) else X7 g sh (g.length - 1) 1 ((List.replicate g.length (-1)).set EN 0)
theorem Avx(g)(sh)(d)(v)(o):(WC g sh d v o).length=o.length:=by
 unfold WC;split
 . rfl
 . split<;>simp
theorem Agd(g)(sh)(d):∀(f v:Nat) (o:Aa),(UT g sh d f v o).length=o.length
 | 0,_,_=>rfl
 | f+1,v,o=>by rw[UT,Agd g sh d f,Avx]
theorem Air(g)(sh):∀(f d:Nat) (o:Aa),(X7 g sh f d o).length=o.length
 | 0,_,_=>rfl
 | f+1,d,o=>by rw[X7,Air g sh f,Agd]
theorem Y6(g)(sh)(EN):(IF g sh EN).length=g.length:=by
 unfold IF;split
 . simp
 . rw[Air];simp
def DP(g:Ab)(EN:Nat)(m:Int)(o:Aa):Prop:=
 o.length=g.length/\∀v,v<g.length->o.getD v 0=-1∨(o.getD v 0=0/\v=EN)∨(1<=o.getD v 0/\o.getD v 0<=m/\∃w∈g.getD v [],o.getD w.toNat 0=o.getD v 0 - 1)
theorem Bc4{g}(z:PN g){sh}{EN}{d}{v}{o}(H:v<g.length)(y:1<=d)(h:DP g EN d o):DP g EN d (WC g sh d v o):=by
 unfold WC;split
 . exact h
 rename_i s;split
 . rename_i h2;obtain ⟨E,B⟩:=h;have Anz:o.getD v 0<0:=by
     rcases Int.lt_or_le (o.getD v 0) 0 with a | a
     . exact a
     . exact absurd (Or.inr a) s
   refine ⟨by simpa using E,λ u i=>?_⟩;rw[Cf] at h2;obtain ⟨w,l,b⟩:=h2;have b:=Bg b;have Aaf:∀j,j<g.length->(o.set v d).getD j 0=if v=j then d else o.getD j 0:=λ j K=>by
     rw[MO];by_cases e:v=j
     . rw[if_pos ⟨e,AQ⟩,if_pos e]
     . rw[if_neg (λ h=>e h.1),if_neg e]
   have f:∀u,u<g.length->∀w∈g.getD u [],0<=w/\w<(g.length:Int)/\w≠(u:Int):=λ u i w l=>by
     obtain ⟨k,q,rfl⟩:=Ch.1 l;have:=z.2 u i k q;unfold Tb at this;have r:(g.getD u []).getD k 0=(g.getD u [])[k]:=getD_eq q;rw[r] at this;exact ⟨this.1,this.2.1,this.2.2.1⟩
   rw[Aaf u i];by_cases e:v=u
   . subst e;rw[if_pos rfl];have a:=f v H w l;refine .inr (.inr ⟨y,Int.le_refl _,w,l,?_⟩);rw[Aaf _ AQ,if_neg AQ];exact b
   . rw[if_neg e];rcases B u i with a | a | ⟨a,t,m,p,x⟩
     . exact .inl a
     . exact .inr (.inl a)
     . refine .inr (.inr ⟨a,t,m,p,?_⟩);have I:=f u i m p;rw[Aaf _ AQ];by_cases n:v=m.toNat
       . rw[n] at Anz;omega
       . rw[if_neg n];exact x
 . exact h
theorem Amc{g}(b:PN g){sh}{EN}{d}(a:1<=d):∀(f v:Nat) (o:Aa),v+f<=g.length->DP g EN d o->DP g EN d (UT g sh d f v o)
 | 0,_,_,_,h=>h
 | f+1,v,o,e,h=>Amc b a f (v+1) _ AQ (Bc4 b AQ a h)
theorem DP.mono{g}{EN}{m b}{o}(j:m<=b)(h:DP g EN m o):DP g EN b o:=
 ⟨h.1,λ v f=>by
   rcases h.2 v f with a | a | ⟨a,i,e⟩
   . exact .inl a
   . exact .inr (.inl a)
   . exact .inr (.inr ⟨a,AQ,e⟩)⟩
theorem Aq1{g}(a:PN g){sh}{EN}:∀(f d:Nat) (o:Aa),1<=d->DP g EN d o->DP g EN (d+f:Nat) (X7 g sh f d o)
 | 0,d,o,_,h=>h.mono AQ
 | f+1,d,o,b,h=>by
   have:=Aq1 (sh:=sh) a f (d+1) (UT g sh d g.length 0 o) AQ ((Amc a AQ g.length 0 o AQ h).mono AQ);rw[show d+1+f=d+(f+1) by omega] at this;exact this
theorem Apq{g}(b:PN g)(sh)(EN)(Pl:EN<g.length):DP g EN 24 (IF g sh EN):=by
 have Brt:∀v,v<g.length->(List.replicate g.length (-1:Int)).getD v 0=-1:=λ v a=>by simp[List.getD,a]
 unfold IF;split
 . exact ⟨AT,λ v a=> .inl (Brt v a)⟩
 . refine (Aq1 b (g.length - 1) 1 _ (Bk _) ⟨AT,λ v a=>?_⟩).mono (by have:=b.1;omega);rw[MO];by_cases e:EN=v
   . rw[if_pos ⟨e,by simpa using Pl⟩];exact .inr (.inl ⟨rfl,e.symm⟩)
   . rw[if_neg (λ h=>e h.1)];exact .inl (Brt v a)
theorem Abz{g}(a:PN g){u}(e:u<g.length){k}(b:k<(g.getD u []).length):∃w:Nat,(g.getD u []).getD k 0=(w:Int)/\w<g.length/\w≠u:=by
 have:=a.2 u e k b;unfold Tb at this;exact ⟨((g.getD u []).getD k 0).toNat,AQ,AQ,AQ⟩
def GL:List Sf->Int
 | []=>0
 | s::r=>s.Eg+GL r
theorem IM(l)(s):GL (l++[s])=GL l+s.Eg:=by
 induction l with
 | nil=>simp[GL]
 | cons x r a=>simp only[Ce,GL,a];omega
def Vc(a:Nat)(b:Int)(s:Sf):Prop:=0<=s.PJ/\s.PJ<(a:Int)/\0<=s.out/\s.out<(a:Int)/\1<=s.Eg/\s.Eg<=4/\s.base=b
instance (nb:Nat) (b:Int) (s:Sf):Decidable (Vc nb b s):=by unfold Vc;exact inferInstance
def inD(x:Int)(s:Sf):Bool:=s.Fq&&(decide (s.base<=x)&&decide (x<s.base+s.Eg))
def JL(a:Nat)(l:List Sf):Prop:=∀i,i<l.length->Vc a (a+GL (l.take i)) (l.getD i EY)
instance (nb:Nat) (l:List Sf):Decidable (JL nb l):=by unfold JL;exact inferInstance
def Nu(sp:List Sf)(l:Aa):Prop:=∀i,i<l.length->sp.any (inD (l.getD i 0))=true/\l.getD i 0∉l.take i
instance (sp:List Sf) (l:Aa):Decidable (Nu sp l):=by unfold Nu;exact inferInstance
def validN(n:Nt):Prop:=Nz n/\n.CT.length<=6/\VT n/\n.C7.length<=8/\UM n.cq n.ca n.cd n.cp/\JL n.blocks.length n.CT/\Nu n.CT n.C7/\0<(n.CT.filter Sf.Fq).length
instance (n:Nt):Decidable (validN n):=by unfold validN;exact inferInstance
theorem SV(nb)(l:List Sf)(k)(i:k<=l.length)(h:∀j,j<k->Vc nb (nb+GL (l.take j)) (l.getD j EY)):0<=GL (l.take k)/\GL (l.take k)<=4*k:=by
 induction k with
 | zero=>simp[GL]
 | succ k a=>
   have b:=a AQ (λ j g=>h j AQ);have h2:=h k AQ;rw[G5 l k EY AQ,IM];obtain ⟨_,_,_,_,e,f,_⟩:=h2;omega
def smallN(n:Nt):Prop:=n.blocks.length<=10000000/\YD n.next/\n.CT.length<=10000000/\n.C7.length<=10000000
theorem Agb(n)(l:smallN n):C3 prog 35 [.agg n.cs] [] λ h r=>h=[]/\r=bD (decide (validN n)):=by
 have hB:=Bay n l.1 l.2.1;have hN:=Bcv n l.1 l.2.2.1;have hC:=Ag7 n.cq n.ca n.cd n.cp;obtain ⟨_,_,a2,KF⟩:=l;refine Dx func35 rfl Bg0 (by simp[Tryz.f35]) ?_;simp only[go_sem,Nt.cs];refine Cq ((hB)) ?_;cases H:decide (Nz n)
 . simp only[go_sem,H];rw[Bj (λ a=>Bh H a.1)]
 cases Q:decide (6<(n.CT.length:Int));rotate_left
 . simp only[go_sem,Nt.cs,D9,H,Q];rw[Bj (λ a=>by have:=a.2.1;have:=Bg Q;omega)]
 simp only[go_sem,Nt.cs,D9,H,Q];refine Cq ((hN)) ?_;cases I:decide (VT n)
 . simp only[go_sem,I];rw[Bj (λ a=>Bh I a.2.2.1)]
 cases R:decide (8<(n.C7.length:Int));rotate_left
 . simp only[go_sem,Nt.cs,C0,I,R];rw[Bj (λ a=>by have:=a.2.2.2.1;have:=Bg R;omega)]
 simp only[go_sem,Nt.cs,C0,I,R];refine Cq ((hC)) ?_;cases T:decide (UM n.cq n.ca n.cd n.cp)
 . simp only[go_sem,T];rw[Bj (λ a=>Bh T a.2.2.2.2.1)]
 simp only[go_sem,Nt.cs,DA,T];clear hB hN hC;have e1:=Bg H;have e2:=Bh Q;have e3:=Bg I;have e4:=Bh R;have e5:=Bg T;clear H Q I R T;have Bjp:n.blocks.length<=24:=e1.2.1;refine Dq (λ i:Nat=>⟨[(1,.ptr 1 0),(3,iD ((n.blocks.length:Int)+GL (n.CT.take i))),(4,iD (((n.CT.take i).filter Sf.Fq).length:Nat)),(5,iD (i:Nat))],[(1,.box (Nt.cs n))],163⟩)
   (λ i=>i<=n.CT.length/\∀j,j<i->Vc n.blocks.length (n.blocks.length+GL (n.CT.take j)) (n.CT.getD j EY)) (λ i=>n.CT.length - i) 0 ⟨BQ _,λ j z=>absurd z (B6 _)⟩ (Wk.forget (by simp[ZF,Nt.cs,GL])) ?_
 rintro i m ⟨hi,FE⟩ W;simp only[go_sem,Nt.cs,D9];refine D5 (λ h2=>?_) (λ h2=>?_)
 . have Dv:i<n.CT.length:=by simp at h2;omega
   have hw:=DQ i AQ;have u:=Om n.CT i Dv;have FU:(0:Int)<=(i:Int)/\(i:Int)<(n.CT.length:Int):=AQ;have Byq:=SV n.blocks.length n.CT i hi FE;have Nw:¬Vc n.blocks.length (n.blocks.length+GL (n.CT.take i)) (n.CT.getD i EY)->decide (validN n)=false:=λ h=>Bj (λ a=>h (a.2.2.2.2.2.1 i Dv));have Qm:Vc n.blocks.length (n.blocks.length+GL (n.CT.take i)) (n.CT.getD i EY)->∀j,j<i+1->Vc n.blocks.length (n.blocks.length+GL (n.CT.take j)) (n.CT.getD j EY):=λ h j z=>by
     rcases BL.1 z with t | rfl
     . exact FE j t
     . exact h
   have v:=G5 n.CT i EY Dv;have a1:((n.CT.take i).filter Sf.Fq).length<=i:=by
     refine CF (List.length_filter_le _ _) ?_;simp;omega
   generalize n.CT.getD i EY=s at*;obtain ⟨nm,Y,PJ,out,sl,w⟩:=s;simp only[Vc] at Nw Qm;generalize hS:GL (n.CT.take i)=S at*;generalize U:((n.CT.take i).filter Sf.Fq).length=K at*;cases b:decide (PJ<0);rotate_left
   . simp only[go_sem,Nt.cs,D9,DA,Be,u,FU,b];rw[Nw (λ a=>by have:=Bg b;omega)]
   cases e:decide ((n.blocks.length:Int)<=PJ);rotate_left
   . simp only[go_sem,Nt.cs,D9,DA,Be,u,FU,b,e];rw[Nw (λ a=>by have:=Bg e;omega)]
   cases q:decide (out<0);rotate_left
   . simp only[go_sem,Nt.cs,D9,DA,Be,u,FU,b,e,q];rw[Nw (λ a=>by have:=Bg q;omega)]
   cases y:decide ((n.blocks.length:Int)<=out);rotate_left
   . simp only[go_sem,Nt.cs,D9,DA,Be,u,FU,b,e,q,y];rw[Nw (λ a=>by have:=Bg y;omega)]
   cases B:decide (sl<1);rotate_left
   . simp only[go_sem,Nt.cs,D9,DA,Be,u,FU,b,e,q,y,B];rw[Nw (λ a=>by have:=Bg B;omega)]
   cases E:decide (4<sl);rotate_left
   . simp only[go_sem,Nt.cs,D9,DA,Be,u,FU,b,e,q,y,B,E];rw[Nw (λ a=>by have:=Bg E;omega)]
   cases N:decide (w=(n.blocks.length:Int)+S)
   . simp only[go_sem,Nt.cs,D9,DA,Be,u,FU,b,e,q,y,B,E,N];rw[Nw (λ a=>by have:=Bh N;omega)]
   have a3:1<=sl/\sl<=4:=by have:=Bh B;have:=Bh E;omega
   have o:i64.wrap ((n.blocks.length:Int)+S+sl)=(n.blocks.length:Int)+S+sl:=by rw[C5]<;>omega
   have Ru:=Qm (by have:=Bh b;have:=Bh e;have:=Bh q;have:=Bh y;have:=Bg N;omega);have a0:=DQ K AQ;cases Y
   . simp only[go_sem,Nt.cs,D9,DA,Be,u,FU,b,e,q,y,B,E,N,o,hw];refine W (i+1) _ ⟨Dv,Ru⟩ AQ ?_
     (refine Wk.forget ?_;simp[ZF,Nt.cs,v,IM,hS,U,Int.add_assoc];done)
   . simp only[go_sem,Nt.cs,D9,DA,Be,u,FU,b,e,q,y,B,E,N,o,hw,a0];refine W (i+1) _ ⟨Dv,Ru⟩ AQ ?_
     (refine Wk.forget ?_;simp[ZF,Nt.cs,v,IM,hS,U,Int.add_assoc];done)
 have:i=n.CT.length:=by simp at h2;omega
 subst this;have QU:JL n.blocks.length n.CT:=FE;rw[BH];have Bzg:∀k,k<n.CT.length->0<=(n.CT.getD k EY).base/\(n.CT.getD k EY).base<=1000/\1<=(n.CT.getD k EY).Eg/\(n.CT.getD k EY).Eg<=4:=λ k hk=>by
   have t:=QU k hk;have Z:=SV n.blocks.length n.CT k AQ (λ j z=>QU j AQ);obtain ⟨_,_,_,_,h5,h6,h7⟩:=t;omega
 clear W FE;generalize U:(n.CT.filter Sf.Fq).length=K;simp only[go_sem];refine Dq (λ i:Nat=>⟨[(1,.ptr 1 0),(4,iD (K:Nat)),(7,iD (i:Nat))],[(1,.box (Nt.cs n))],163⟩)
   (λ i=>i<=n.C7.length/\∀j,j<i->n.CT.any (inD (n.C7.getD j 0))=true/\n.C7.getD j 0∉n.C7.take j) (λ i=>n.C7.length - i) 0 ⟨BQ _,λ j z=>absurd z (B6 _)⟩ (Wk.forget (by simp[ZF,Nt.cs])) ?_
 rintro i m2 ⟨H8,FE⟩ W;simp only[go_sem,Nt.cs,C0];refine D5 (λ t=>?_) (λ t=>?_);rotate_left
 . simp only[go_sem];have:i=n.C7.length:=by simp at t;omega
   subst this;have hv:decide (validN n)=decide (0<(K:Int)):=by
     by_cases V:0<K
     . rw[Bi (show validN n from ⟨e1,AQ,e3,AQ,e5,QU,FE,by rw[U];exact V⟩),Bi AQ]
     . rw[Bj (λ a:validN n=>V (by have:=a.2.2.2.2.2.2.2;rw[U] at this;exact this)),Bj AQ]
   rw[hv];try simp
 have Dv:i<n.C7.length:=by simp at t;omega
 have hw:=DQ i AQ;have g:=Fi n.C7 i Dv;have FU:(0:Int)<=(i:Int)/\(i:Int)<(n.C7.length:Int):=AQ;have Nw:¬(n.CT.any (inD (n.C7.getD i 0))=true/\n.C7.getD i 0∉n.C7.take i)->decide (validN n)=false:=λ h=>Bj (λ a=>h (a.2.2.2.2.2.2.1 i Dv));have Qm:(n.CT.any (inD (n.C7.getD i 0))=true/\n.C7.getD i 0∉n.C7.take i)->∀j,j<i+1->n.CT.any (inD (n.C7.getD j 0))=true/\n.C7.getD j 0∉n.C7.take j:=λ h j z=>by
   rcases BL.1 z with t | rfl
   . exact FE j t
   . exact h
 generalize n.C7.getD i 0=x at g Nw Qm;simp only[go_sem];refine Dq (λ k:Nat=>⟨[(1,.ptr 1 0),(4,iD (K:Nat)),(7,iD (i:Nat)),(8,bD ((n.CT.take k).any (inD x))),(9,iD (k:Nat))],[(1,.box (Nt.cs n))],163⟩)
   (λ k=>k<=n.CT.length) (λ k=>n.CT.length - k) 0 (BQ _) (Wk.forget (by simp[ZF,Nt.cs])) ?_
 rintro k m3 hk VZ;simp only[go_sem,Nt.cs,D9];refine D5 (λ Z=>?_) (λ Z=>?_)
 . have Uf:k<n.CT.length:=by simp at Z;omega
   have Rp:=DQ k AQ;have UL:=Om n.CT k Uf;have Lo:(0:Int)<=(k:Int)/\(k:Int)<(n.CT.length:Int):=AQ;have hb:=Bzg k Uf;have v:=G5 n.CT k EY Uf;generalize n.CT.getD k EY=s at*;obtain ⟨nm,Y,PJ,out,sl,w⟩:=s;simp only at hb;have o:i64.wrap (w+sl)=w+sl:=by rw[C5]<;>omega
   have f:(n.CT.take (k+1)).any (inD x)=((n.CT.take k).any (inD x)||(Y&&(decide (w<=x)&&decide (x<w+sl)))):=by
     rw[v,List.any_append];simp[inD]
   generalize (n.CT.take k).any (inD x)=ok at*;simp only[go_sem,Nt.cs,D9,Be,UL,Lo];refine PU mixed (p:=[(0,0),(1,0),(2,0),(3,0),(4,0),(5,0),(6,0),(7,0),(8,0),(9,0),(10,0),(11,0),(12,0),(13,0),(14,0),(15,0),(16,0),(17,0),(18,0),(19,0),(20,0),(21,0),(22,0),(23,0),(24,0),(25,0),(26,0),(27,0),(28,0)]) AY A7 ?_;cases ok;rotate_left
   . simp only[go_sem,Nt.cs,Rp];refine VZ (k+1) _ Uf AQ ?_
     (refine Wk.forget ?_;simp[ZF,Nt.cs,f];done)
   cases Y
   . simp only[go_sem,Nt.cs,Rp];refine VZ (k+1) _ Uf AQ ?_
     (refine Wk.forget ?_;simp[ZF,Nt.cs,f];done)
   cases b:decide (w<=x)
   . simp only[go_sem,Nt.cs,C0,Be,g,FU,b,Rp];refine VZ (k+1) _ Uf AQ ?_
     (refine Wk.forget ?_;simp[ZF,Nt.cs,f,b];done)
   cases e:decide (x<w+sl)
   . simp only[go_sem,Nt.cs,C0,Be,g,FU,b,o,e,Rp];refine VZ (k+1) _ Uf AQ ?_
     (refine Wk.forget ?_;simp[ZF,Nt.cs,f,b,e];done)
   . simp only[go_sem,Nt.cs,C0,Be,g,FU,b,o,e,Rp];refine VZ (k+1) _ Uf AQ ?_
     (refine Wk.forget ?_;simp[ZF,Nt.cs,f,b,e];done)
 have:k=n.CT.length:=by simp at Z;omega
 subst this;rw[BH];simp only[go_sem];refine PU mixed (p:=[(0,0),(1,0),(2,0),(3,0),(4,0),(5,0),(6,0),(7,0),(8,0),(9,0),(10,0),(11,0),(12,2),(13,0)]) AY A7 ?_;cases ho:n.CT.any (inD x)
 . simp only[go_sem,ho];rw[Nw (λ a=>by rw[ho] at a;cases a.1)]
 simp only[go_sem,Nt.cs,C0,Be,g,FU,ho,Adz];refine ⟨⟨AQ,by simp[PX,CS]⟩,?_⟩;refine Gq ((Be5 (n.C7.take i) x AW)) ?_;cases hh:decide (x∈n.C7.take i)
 . simp only[go_sem,hh,hw];refine W (i+1) _ ⟨Dv,Qm ⟨ho,Bh hh⟩⟩ AQ ?_
   (refine Wk.forget ?_;simp[ZF,Nt.cs];done)
 . simp only[go_sem,hh];rw[Nw (λ a=>a.2 (Bg hh))]
structure Cd where
 kind:Int
 a:Ad
 b:Ad
 n:Int
 deriving DecidableEq
def cd0:Cd:=⟨0,[],[],0⟩
def Cd.cs(x:Cd):Ai:=[.p (.int .i64 x.kind),.p (.str x.a),.p (.str x.b),.p (.int .i64 x.n)]
structure Fk where
 word:Ad
 na:Nat
 nu:Nat
def Z3:List Fk:=[⟨[],0,0⟩,⟨[116,97,115,107],2,0⟩,⟨[99,97,110,99,101,108],0,1⟩,⟨[99,108,111,115,101],1,0⟩,⟨[111,112,101,110],1,0⟩,⟨[97,100,100],1,0⟩,⟨[114,101,109,111,118,101],0,1⟩,⟨[115,116,97,116,117,115],0,1⟩,⟨[98,108,111,99,107],1,0⟩,⟨[102,108,101,101,116],0,0⟩,⟨[113,117,101,117,101],0,0⟩]
def fK(j:Nat):Fk:=Z3.getD j ⟨[],0,0⟩
def Lv(w:Ad):Nat:=(XF (λ f:Fk=>decide (f.word=w)) 0 Z3.tail+1).toNat
theorem Z5{α:Type}(p:α->Bool):∀(l:List α) (k:Nat),XF p k l=-1∨∃i x,l[i]?=some x/\p x=true/\XF p k l=((k+i:Nat):Int)
 | [],k=> .inl rfl
 | x::r,k=>by
   simp only[XF];split
   . rename_i h;exact .inr ⟨0,x,rfl,h,rfl⟩
   . rcases Z5 p r (k+1) with h | ⟨i,y,a,h2,b⟩
     . exact .inl h
     . exact .inr ⟨i+1,y,by simpa using a,h2,by rw[b];omega⟩
theorem Avr(w):XF (λ f:Fk=>decide (f.word=w)) 0 Z3.tail+1=(Lv w:Int)/\Lv w<11/\(Lv w≠0->(fK (Lv w)).word=w):=by
 unfold Lv;rcases Z5 (λ f:Fk=>decide (f.word=w)) Z3.tail 0 with h | ⟨i,x,a,h2,b⟩
 . rw[h];exact ⟨rfl,AV,λ h=>(h rfl).elim⟩
 . have l:Z3.tail.length=10:=rfl;have k:=(Bn.1 a).1;rw[b];have e:(((0+i:Nat):Int)+1).toNat=i+1:=AQ;refine ⟨AQ,AQ,λ _=>?_⟩;rw[e];have g:Z3[i+1]?=some x:=by rw[<-a];cases j:Z3<;>simp
   simp only[fK,List.getD,g,BP];exact Bg h2
theorem Bej(j):(fK j).na<=2/\(fK j).nu<=1/\((fK j).nu≠0->(fK j).na=0):=by
 by_cases h:j<11
 . have:∀j:Fin 11,(fK j).na<=2/\(fK j).nu<=1/\((fK j).nu≠0->(fK j).na=0):=AV;exact this ⟨j,h⟩
 . have:fK j=⟨[],0,0⟩:=by
     unfold fK;rw[Bu,List.getElem?_eq_none (by show 11<=j;omega)];rfl
   rw[this];decide
def Aak(a:Ae):Ad:=a.getD 1 []
def Bed(a:Ae):Ad:=a.getD 2 []
def Bar(j b e:Nat)(a:Ae):Cd:=
 if j=0∨a.length≠1+b+e∨((a.take (1+b)).drop 1).any (λ s=>!ME s)=true then cd0
 else if e=0 then ⟨j,if 0<b then Aak a else [],if 1<b then Bed a else [],0⟩
 else if (Hw (Aak a)).2=true/\0<=(Hw (Aak a)).1 then ⟨j,if 0<b then Aak a else [],if 1<b then Bed a else [],(Hw (Aak a)).1⟩ else cd0
def Boy(a:Ae):Cd:=Bar (Lv (a.getD 0 [])) (fK (Lv (a.getD 0 []))).na (fK (Lv (a.getD 0 []))).nu a
def Ald(t:Ad):Cd:=if (D1 t).2.2=0/\(D1 t).1.length=1 then Boy ((D1 t).1.getD 0 ln0).fs else cd0
theorem Amz:∀(S:Ae) (k:Nat) (acc:AA),(∀x∈acc,x.fs≠[])->∀x∈(Fp S k acc).1,x.fs≠[]
 | [],k,acc,h=>by simpa [Fp] using h
 | t::r,k,acc,h=>by
   simp only[Fp];split
   . refine Amz r (k+1) _ λ x hx=>?_;split at hx
     . rename_i a;simp only[BC,BF] at hx;rcases hx with hx | rfl
       . exact h x hx
       . exact Ca.1 a
     . exact h x hx
   . simp
theorem Ahp(t):∀x∈(D1 t).1,x.fs≠[]:=by
 unfold D1;split
 . simp
 . exact Amz _ _ _ AT
theorem Aio(n:Int)(h0:0<=n)(f:n<=9999):Io (MR n)=true:=by
 have e:=Bgp n AQ AQ;refine KC.2 ⟨e.2,AQ,λ c a=>?_⟩;have b:MR n=Ik n.toNat:=by unfold MR;rw[if_neg AQ]
 rw[b] at a;have:=(XZ 5 n.toNat AQ).2.1;have:=BB.1 this c a;simp only[OY,Bz,BI] at this;simp only[QR,Bz,BI,Bool.not_eq_true',decide_eq_false_iff_not];omega
theorem Asw(a:Ae)(EG:a≠[])(h:∀s∈a,Io s=true)(e:(Ej a).length<=6000):D1 (Ej a)=([⟨1,a⟩],0,0):=by
 unfold D1;rw[if_neg AQ,YC 10 _ (Am3 h).1];have b:0<a.length:=Ca.2 EG;simp[Fp,Ahh a EG h,b]
def Qi(w:Ad):D:= .Em [.p (.int .i64 (Lv w:Nat)),.p (.int .i64 ((fK (Lv w)).na:Nat)),.p (.bool (decide ((fK (Lv w)).nu=1)))]
theorem HP(w x)(n m)(k)(r)(h:¬w=x):XF (λ f:Fk=>decide (f.word=w)) k (⟨x,n,m⟩::r)=XF (λ f:Fk=>decide (f.word=w)) (k+1) r:=by
 have:¬x=w:=λ e=>h e.symm;simp[XF,this]
theorem Bjb(w):C3 prog 124 [.p (.str w)] [] λ h r=>h=[]/\r=Qi w:=by
 refine Dx func124 rfl Azo (by simp[Tryz.f124]) ?_;cases a:decide (w=[116,97,115,107]);rotate_left
 . simp only[go_sem,a];refine Ds ?_;simp only[go_sem];rw[Bg a];exact (show _=Qi _ by kernel_rfl)
 have o:=Bh a;cases b:decide (w=[99,97,110,99,101,108]);rotate_left
 . simp only[go_sem,a,b];refine Ds ?_;simp only[go_sem];rw[Bg b];exact (show _=Qi _ by kernel_rfl)
 have q:=Bh b;cases f:decide (w=[115,116,97,116,117,115]);rotate_left
 . simp only[go_sem,a,b,f];refine Ds ?_;simp only[go_sem];rw[Bg f];exact (show _=Qi _ by kernel_rfl)
 have h2:=Bh f;cases g:decide (w=[114,101,109,111,118,101]);rotate_left
 . simp only[go_sem,a,b,f,g];refine Ds ?_;simp only[go_sem];rw[Bg g];exact (show _=Qi _ by kernel_rfl)
 have s:=Bh g;cases i:decide (w=[99,108,111,115,101]);rotate_left
 . simp only[go_sem,a,b,f,g,i];refine Ds ?_;simp only[go_sem];rw[Bg i];exact (show _=Qi _ by kernel_rfl)
 have t:=Bh i;cases j:decide (w=[111,112,101,110]);rotate_left
 . simp only[go_sem,a,b,f,g,i,j];refine Ds ?_;simp only[go_sem];rw[Bg j];exact (show _=Qi _ by kernel_rfl)
 have u:=Bh j;cases k:decide (w=[97,100,100]);rotate_left
 . simp only[go_sem,a,b,f,g,i,j,k];refine Ds ?_;simp only[go_sem];rw[Bg k];exact (show _=Qi _ by kernel_rfl)
 have v:=Bh k;cases l:decide (w=[98,108,111,99,107]);rotate_left
 . simp only[go_sem,a,b,f,g,i,j,k,l];refine Ds ?_;simp only[go_sem];rw[Bg l];exact (show _=Qi _ by kernel_rfl)
 have x:=Bh l;cases m:decide (w=[102,108,101,101,116]);rotate_left
 . simp only[go_sem,a,b,f,g,i,j,k,l,m];refine Ds ?_;simp only[go_sem];rw[Bg m];exact (show _=Qi _ by kernel_rfl)
 have y:=Bh m;cases n:decide (w=[113,117,101,117,101]);rotate_left
 . simp only[go_sem,a,b,f,g,i,j,k,l,m,n];refine Ds ?_;simp only[go_sem];rw[Bg n];exact (show _=Qi _ by kernel_rfl)
 have z:=Bh n;have e:Lv w=0:=by
   unfold Lv Z3;simp only[List.tail_cons];rw[HP _ _ _ _ _ _ o];rw[HP _ _ _ _ _ _ q];rw[HP _ _ _ _ _ _ t];rw[HP _ _ _ _ _ _ u];rw[HP _ _ _ _ _ _ v];rw[HP _ _ _ _ _ _ s];rw[HP _ _ _ _ _ _ h2];rw[HP _ _ _ _ _ _ x];rw[HP _ _ _ _ _ _ y];rw[HP _ _ _ _ _ _ z];rfl
 simp only[go_sem,a,b,f,g,i,j,k,l,m,n];refine Ds ?_;simp only[go_sem];simp only[Qi,e];rfl
theorem Bk9(t):C3 prog 78 [.p (.str t)] [] λ h r=>h=[]/\r= .agg (Ald t).cs:=by
 have EG:=Ahp t;have v:=Akv t;refine Dx func78 rfl Bf5 (by simp[Tryz.f78]) ?_;simp only[go_sem];refine Cq ((Awp t)) ?_;simp only[go_sem,PI,GQ];by_cases q:(D1 t).2.2=0;rotate_left
 . simp only[go_sem,q];refine DF ?_;simp only[go_sem];simp[Ald,q,cd0,Cd.cs]
 by_cases Q:((D1 t).1.length:Int)=1;rotate_left
 . have Hc:¬(D1 t).1.length=1:=AQ;simp only[go_sem,q,Q,GQ];refine DF ?_;simp only[go_sem];simp[Ald,Hc,cd0,Cd.cs]
 have Hc:(D1 t).1.length=1:=AQ;have o:Ald t=Boy ((D1 t).1.getD 0 ln0).fs:=by unfold Ald;rw[if_pos ⟨q,Hc⟩]
 have R:=Bgh (D1 t).1 0 AQ;have b:=EG _ (IE (D1 t).1 0 ln0 AQ);have I:=v.2 _ (IE (D1 t).1 0 ln0 AQ);rw[o];simp only[go_sem,q,Q,Hc,GQ,R];generalize ((D1 t).1.getD 0 ln0).fs=fs at*;clear o R EG v;obtain ⟨w,rest,rfl⟩:∃w rest,fs=w::rest:=by
   cases fs with
   | nil=>exact (b rfl).elim
   | cons w r=>exact ⟨w,r,rfl⟩
 simp only[Br] at I;have z:(El (w::rest)).getD 0 []=[.str w]:=rfl;have hlen:(El (w::rest)).length=rest.length+1:=by rw[DJ];rfl
 have H:(0:Int)<((rest.length+1:Nat):Int):=AQ;simp only[go_sem,z,hlen,H];refine Cq ((Bjb w)) ?_;obtain ⟨K,W,N⟩:=Avr w;have E:=Bej (Lv w);have m:Boy (w::rest)=Bar (Lv w) (fK (Lv w)).na (fK (Lv w)).nu (w::rest):=rfl;rw[m];unfold Qi;clear K N m;generalize Lv w=j at*;generalize (fK j).na=na at*;generalize (fK j).nu=nu at*;obtain ⟨Z,k2,Y⟩:=E;have bad:(j=0∨(w::rest).length≠1+na+nu∨(((w::rest).take (1+na)).drop 1).any (λ s=>!ME s)=true)->Bar j na nu (w::rest)=cd0:=λ h=>by unfold Bar;rw[if_pos h]
 have Be7:j≠0->(w::rest).length=1+na+nu->(((w::rest).take (1+na)).drop 1).any (λ s=>!ME s)=false->Bar j na nu (w::rest)=if nu=0 then ⟨j,if 0<na then Aak (w::rest) else [],if 1<na then Bed (w::rest) else [],0⟩
     else if (Hw (Aak (w::rest))).2=true/\0<=(Hw (Aak (w::rest))).1 then ⟨j,if 0<na then Aak (w::rest) else [],if 1<na then Bed (w::rest) else [],(Hw (Aak (w::rest))).1⟩ else cd0:=by
   intro Bjm f Bjr;unfold Bar;rw[if_neg];rintro (h | h | h)
   . exact Bjm h
   . exact h f
   . rw[Bjr] at h;cases h
 have Ww:1<(w::rest).length->(El (w::rest)).getD 1 []=[.str (Aak (w::rest))]:=λ h=>MP _ 1 h;have u:2<(w::rest).length->(El (w::rest)).getD 2 []=[.str (Bed (w::rest))]:=λ h=>MP _ 2 h;cases a:decide ((j:Int)=0);rotate_left
 . rw[bad (.inl (by have:=Bg a;omega))];by_cases b:nu=1
   . subst b;simp only[go_sem,a];refine DF ?_;simp only[go_sem];rfl
   . simp only[go_sem,a,b];refine DF ?_;simp only[go_sem];rfl
 have Bjm:j≠0:=by have:=Bh a;omega
 rw[Br] at bad Be7 Ww u;by_cases b:nu=0
 . subst b;have y:i64.wrap (1+(na:Int))=((1+na:Nat):Int):=by rw[C5]<;>omega
   cases g:decide (((rest.length+1:Nat):Int)=((1+na:Nat):Int))
   . simp only[go_sem,a,hlen,y,g];refine DF ?_;simp only[go_sem];rw[bad (.inr (.inl (by have:=Bh g;omega)))];rfl
   have f:rest.length+1=1+na:=by have:=Bg g;omega
   simp only[go_sem,a,hlen,y,g];refine Dq (λ i:Nat=>⟨[(2,.ptr 2 0),(6,sD (El (w::rest))),(8,iD (na:Nat)),(9,bD false),(11,.ptr 11 0),(12,iD (i:Nat))],
       [(2,.box [iD 0,.p (.str []),.p (.str []),iD 0]),(11,.box [iD j,.p (.str []),.p (.str []),iD 0])],99⟩)
     (λ i=>1<=i/\i<=na+1/\(((w::rest).take i).drop 1).any (λ s=>!ME s)=false) (λ i=>na+1 - i) 1 ⟨Bk _,AQ,AT⟩ (Wk.forget (by simp[ZF])) ?_
   rintro i n ⟨Og,H8,Bjr⟩ T;simp only[go_sem];refine D5 (λ h2=>?_) (λ h2=>?_)
   . have U:i<=na:=by simp at h2;omega
     have Dv:i<(w::rest).length:=by rw[Br];omega
     have FU:(0:Int)<=(i:Int)/\(i:Int)<((rest.length+1:Nat):Int):=AQ;have Rv:=MP (w::rest) i Dv;have V:=DQ i AQ;have x:((w::rest).take (i+1)).drop 1=((w::rest).take i).drop 1++[(w::rest).getD i []]:=by
       rw[CG Dv,List.drop_append_of_le_length (by rw[BK];omega)];rw[Bu,Bp Dv];rfl
     have OT:∀s,s∈((w::rest).take (i+1)).drop 1->s∈((w::rest).take (1+na)).drop 1:=by
       intro s S;have e:(w::rest).take (i+1)=((w::rest).take (1+na)).take (i+1):=by rw[List.take_take,CJ AQ]
       rw[e,List.drop_take] at S;exact CB S
     generalize (w::rest).getD i []=s at*;simp only[go_sem,hlen,Be,Rv,FU];refine Cq ((Anh s)) ?_;cases k:ME s
     . simp only[go_sem,k];refine DF ?_;simp only[go_sem];rw[bad (.inr (.inr (Cf.2 ⟨s,OT s (by rw[x];simp),by simp[k]⟩)))];rfl
     . simp only[go_sem,k,V];refine T (i+1) _ ⟨AQ,AQ,by rw[x,List.any_append,Bjr];simp[k]⟩ AQ (Wk.forget (by simp[ZF]))
   . have B:i=1+na:=by simp at h2;omega
     subst B;rw[Be7 Bjm f Bjr];rcases na with _ | _ | _ | na
     . simp only[go_sem];refine DF ?_;simp only[go_sem];simp[Cd.cs]
     . have KF:(1:Int)<((rest.length+1:Nat):Int):=AQ;simp only[go_sem,hlen,KF,Ww AQ,Int.reduceToNat];refine DF ?_;simp only[go_sem];simp[Cd.cs]
     . have KF:(1:Int)<((rest.length+1:Nat):Int):=AQ;have JE:(2:Int)<((rest.length+1:Nat):Int):=AQ;simp only[go_sem,hlen,KF,JE,Ww AQ,u AQ,Int.reduceToNat];refine DF ?_;simp only[go_sem];simp[Cd.cs]
     . omega
 . have ZV:nu=1:=AQ;have Byy:=Y b;subst ZV Byy;cases g:decide (((rest.length+1:Nat):Int)=2)
   . have Bnw:i64.wrap (0+1)=1:=rfl;have Bnv:i64.wrap (1+1)=2:=rfl;simp only[go_sem,a,hlen,Bnw,Bnv,g];refine DF ?_;simp only[go_sem];rw[bad (.inr (.inl (by have:=Bh g;omega)))];rfl
   have f:rest.length+1=2:=by have:=Bg g;omega
   have Bnw:i64.wrap (0+1)=1:=rfl;have Bnv:i64.wrap (1+1)=2:=rfl;simp only[go_sem,a,hlen,Bnw,Bnv,g];refine Dq (λ i:Nat=>⟨[(2,.ptr 2 0),(6,sD (El (w::rest))),(8,iD 0),(9,bD true),(11,.ptr 11 0),(12,iD 1)],
       [(2,.box [.p (.int .i64 0),.p (.str []),.p (.str []),.p (.int .i64 0)]),(11,.box [.p (.int .i64 j),.p (.str []),.p (.str []),.p (.int .i64 0)])],99⟩) (λ _=>True) (λ i=>i) 0 trivial (Wk.forget (by simp[ZF])) ?_
   rintro i n _ T;have KF:(1:Int)<((rest.length+1:Nat):Int):=AQ;rw[Be7 Bjm f AT];simp only[go_sem,hlen,KF,Ww AQ,Int.reduceToNat];generalize Aak (w::rest)=f1 at*;refine Cq ((As1 f1)) ?_;cases l:(Hw f1).2
   . simp only[go_sem,l];refine DF ?_;simp only[go_sem];simp[cd0,Cd.cs]
   . by_cases Anz:(Hw f1).1<0
     . simp only[go_sem,l,Anz];refine DF ?_;simp only[go_sem];have:¬0<=(Hw f1).1:=AQ;simp[this,cd0,Cd.cs]
     . simp only[go_sem,l,Anz];refine DF ?_;simp only[go_sem];have:0<=(Hw f1).1:=AQ;simp[this,Cd.cs]
theorem any_take_succ{α:Type}(p:α->Bool)(l:List α)(k)(x:α)(h:k<l.length):(l.take (k+1)).any p=((l.take k).any p||p (l.getD k x)):=by
 rw[G5 l k x h,List.any_append];simp
theorem QD(l)(i:Nat):((CS l)[i]?.getD []).tail=[]:=by
 unfold CS;rw[BD];cases l[i]?<;>rfl
theorem Al5(g)(sh)(EN)(hg:PN g)(t:sh.length=g.length)(Pl:EN<g.length):
   C3 prog 110 [sD (Dy g),sD (Dl sh),iD (EN:Nat)] [] λ h r=>h=[]/\r=sD (CS (IF g sh EN)):=by
 have hlen:=hg.1;refine Dx func110 rfl Ahw (by simp[Tryz.f110]) ?_;simp only[go_sem,Dt];refine ⟨AQ,?_⟩;refine Dq (λ q:Nat×Aa=>⟨[(0,sD (Dy g)),(1,sD (Dl sh)),(2,iD (EN:Nat)),(7,rD 14 g),(8,iD (q.1:Nat))],[(14,.arr 3 1 (CS q.2))],82⟩)
   (λ q=>q.1<=g.length/\q.2.length=g.length/\∀j,j<q.1->q.2.getD j 0=-1) (λ q=>g.length - q.1) (0,List.replicate g.length 0) ⟨BQ _,AT,λ j S=>absurd S (B6 _)⟩ (Wk.forget Ba) ?_
 rintro ⟨i,o⟩ m ⟨hi,y,hm⟩ ih;simp only at hi y hm;simp only[go_sem,Dt];refine D5 (λ h2=>?_) (λ h2=>?_)
 . have Dv:i<g.length:=by simp at h2;omega
   have hw:=DQ i AQ;have FU:(0:Int)<=(i:Int)/\(i:Int)<(g.length:Int):=AQ;simp only[go_sem,C0,y,Be,FU,hw];refine ih (i+1,o.set i (-1)) _ ⟨Dv,by simpa using y,λ j S=>?_⟩ A0 ?_
   . rw[MO];by_cases e:i=j
     . rw[if_pos ⟨e,AQ⟩]
     . rw[if_neg (λ h=>e h.1)];exact hm j AQ
   . (refine Wk.forget ?_;simp[ZF,On,QD];done)
 have a1:i=g.length:=by simp at h2;omega
 subst a1;have a2:o=List.replicate g.length (-1):=by
   refine List.ext_getElem (by simp[y]) λ j K Y=>?_;have:=hm j AQ;rw[getD_eq K] at this
   simpa using this
 subst a2;clear ih hm;have Bz6:=Qx sh EN AQ;have N:(0:Int)<=(EN:Int)/\(EN:Int)<(g.length:Int):=AQ;simp only[go_sem,J3,t,Be,Bz6,N];cases hs:sh.getD EN false;rotate_left
 . simp only[go_sem,hs];refine Ds ?_;simp only[go_sem];unfold IF;rw[if_pos hs];simp[CS]
 simp only[go_sem,hs,C0,B1,Be,N];have a0:IF g sh EN=X7 g sh (g.length - 1) 1 ((List.replicate g.length (-1)).set EN 0):=by unfold IF;rw[if_neg (by rw[hs];simp)]
 refine Dq (λ q:Nat×Aa=>⟨[(0,sD (Dy g)),(1,sD (Dl sh)),(7,rD 14 g),(9,iD (q.1:Nat))],[(14,.arr 3 1 (CS q.2))],82⟩)
   (λ q=>1<=q.1/\q.1<=24/\q.2.length=g.length/\X7 g sh (g.length - q.1) q.1 q.2=IF g sh EN) (λ q=>g.length - q.1) (1,(List.replicate g.length (-1)).set EN 0) ⟨Bk _,AQ,AT,a0.symm⟩ (Wk.forget (by simp[ZF,On,QD])) ?_
 rintro ⟨d,o⟩ m2 ⟨Tk,Bzc,y,x⟩ ih;simp only at Tk Bzc y x;simp only[go_sem,Dt];refine D5 (λ K=>?_) (λ K=>?_);rotate_left
 . simp only[go_sem];refine Ds ?_;simp only[go_sem];have:g.length - d=0:=by simp at K;omega
   rw[this] at x;simp only[X7] at x;rw[<-x,BA (by rw[C0];omega)];try simp[C0,y]
 have a6:d<g.length:=by simp at K;omega
 have a4:=DQ d AQ;have a5:i64.wrap ((d:Int) - 1)=(d:Int) - 1:=by rw[C5]<;>omega
 rw[show g.length - d=(g.length - (d+1))+1 by omega] at x;simp only[X7] at x;generalize hT:UT g sh d g.length 0 o=T at x;simp only[go_sem];refine Dq (λ q:Nat×Aa=>⟨[(0,sD (Dy g)),(1,sD (Dl sh)),(7,rD 14 g),(9,iD (d:Nat)),(10,iD (q.1:Nat))],[(14,.arr 3 1 (CS q.2))],82⟩)
   (λ q=>q.1<=g.length/\q.2.length=g.length/\UT g sh d (g.length - q.1) q.1 q.2=T) (λ q=>g.length - q.1) (0,o) ⟨BQ _,y,hT⟩ (Wk.forget (by simp[ZF])) ?_
 rintro ⟨v,a⟩ m3 ⟨hv,f,b⟩ E;simp only at hv f b;simp only[go_sem,Dt];refine D5 (λ Y=>?_) (λ Y=>?_);rotate_left
 . have:g.length - v=0:=by simp at Y;omega
   rw[this] at b;simp only[UT] at b;simp only[go_sem,a4];refine ih (d+1,a) _ ⟨AQ,AQ,f,by rw[b];exact x⟩ A0 ?_
   (refine Wk.forget ?_;simp[ZF];done)
 have n:v<g.length:=by simp at Y;omega
 have B:=DQ v AQ;rw[show g.length - v=(g.length - (v+1))+1 by omega] at b;simp only[UT] at b;have s:=Qx sh v AQ;have p:=Fi a v AQ;have l:(0:Int)<=(v:Int)/\(v:Int)<(g.length:Int):=AQ;cases H:sh.getD v false;rotate_left
 . simp only[go_sem,J3,C0,t,f,Be,s,p,l,H,B];refine E (v+1,a) _ ⟨n,f,?_⟩ A0 ?_
   . rw[<-b];unfold WC;rw[if_pos (.inl H)]
   . (refine Wk.forget ?_;simp[ZF];done)
 cases I:decide (0<=a.getD v 0);rotate_left
 . simp only[go_sem,J3,C0,t,f,Be,s,p,l,H,I,B];refine E (v+1,a) _ ⟨n,f,?_⟩ A0 ?_
   . rw[<-b];unfold WC;rw[if_pos (.inr (Bg I))]
   . (refine Wk.forget ?_;simp[ZF];done)
 simp only[go_sem,J3,C0,t,f,Be,s,p,l,H,I];have Ly:WC g sh d v a=if (g.getD v []).any (λ w=>decide (a.getD w.toNat 0=(d:Int) - 1))=true then a.set v d else a:=by
   unfold WC;rw[if_neg (by
     rintro (h | h)
     . rw[H] at h;cases h
     . exact Bh I h)]
 rw[Ly] at b;have Ek:∀k,k<(g.getD v []).length->∃w:Nat,(g.getD v []).getD k 0=(w:Int)/\w<g.length/\w≠v:=λ k hk=>Abz hg n hk;have a7:(g.getD v []).length<=24:=by
   have hP:=hg.2 v n;have key:∀k,k<=(g.getD v []).length->∀j,j<k->(j:Int)<=(g.getD v []).getD j 0:=by
     intro k
     induction k with
     | zero=>intro _ j S;omega
     | succ k V=>
       intro hk j S;rcases BL.1 S with z | rfl
       . exact V AQ j z
       . have Z:=hP j AQ;unfold Tb at Z;rcases j with _ | j
         . exact Z.1
         . have h7:=V AQ j AQ;have h8:=Z.2.2.2 AQ;rw[show j+1 - 1=j from rfl] at h8;omega
   rcases Nat.eq_zero_or_pos (g.getD v []).length with z | z
   . omega
   . have Z:=key _ (Bk _) ((g.getD v []).length - 1) AQ;obtain ⟨w,h7,h8,_⟩:=Ek ((g.getD v []).length - 1) AQ;omega
 have Q:=QF g v n;generalize g.getD v []=row at*;clear Ly H I s p;refine Dq (λ k:Nat=>⟨[(0,sD (Dy g)),(1,sD (Dl sh)),(7,rD 14 g),(9,iD (d:Nat)),(10,iD (v:Nat)),(11,iD (k:Nat))],
     [(14,.arr 3 1 (CS (if (row.take k).any (λ w=>decide (a.getD w.toNat 0=(d:Int) - 1))=true then a.set v d else a)))],82⟩)
   (λ k=>k<=row.length) (λ k=>row.length - k) 0 (BQ _) (Wk.forget (by simp[ZF])) ?_
 rintro k m4 hk VZ;simp only[go_sem,Dt,C0,Be,Q,l];refine D5 (λ z=>?_) (λ z=>?_);rotate_left
 . have:k=row.length:=by simp at z;omega
   subst this;rw[BH];clear VZ;generalize row.any (λ w=>decide (a.getD w.toNat 0=(d:Int) - 1))=an at*;simp only[go_sem,B];refine E (v+1,if an=true then a.set v d else a) _ ⟨n,?_,b⟩ A0 ?_
   . simp only;split<;>simp[f]
   . (refine Wk.forget ?_;simp[ZF];done)
 have Uf:k<row.length:=by simp at z;omega
 have Rp:=DQ k AQ;obtain ⟨w,hw,a8,Bye⟩:=Ek k Uf;have UL:=Fi row k Uf;rw[hw] at UL;have Lo:(0:Int)<=(k:Int)/\(k:Int)<(row.length:Int):=AQ;have a3:(0:Int)<=(w:Int)/\(w:Int)<(g.length:Int):=AQ;have u:=any_take_succ (λ w=>decide (a.getD w.toNat 0=(d:Int) - 1)) row k 0 Uf;rw[hw] at u;simp only[Be] at u;generalize (row.take k).any (λ w=>decide (a.getD w.toNat 0=(d:Int) - 1))=an at*;have U:(if an=true then a.set v d else a).length=g.length:=by split<;>simp[f]
 have R:=Fi (if an=true then a.set v d else a) w AQ;have Bz5:(if an=true then a.set v d else a).getD w 0=a.getD w 0:=by
   split
   . rw[MO,if_neg (λ h=>Bye h.1.symm)]
   . rfl
 rw[Bz5] at R;have Aaf:(if an=true then a.set v d else a).set v d=a.set v d:=by split<;>simp
 generalize hq:(if an=true then a.set v d else a)=q at*;simp only[go_sem,Dt,C0,Be,Q,l,UL,Lo,U,R,a3,a5];cases W:decide (a.getD w 0=(d:Int) - 1)
 . simp only[go_sem,W,Rp];refine VZ (k+1) _ Uf AQ ?_;rw[u,W,Bool.or_false,hq]
   (refine Wk.forget ?_;simp[ZF];done)
 . simp only[go_sem,W,Rp,C0,U,Be,l];refine VZ (k+1) _ Uf AQ ?_;rw[u,W,Bool.or_true,if_pos rfl,<-Aaf,On]
   (refine Wk.forget ?_;simp[ZF,QD];done)
theorem Bas(g)(sh)(e:YD g):C3 prog 66 [sD (Dy g),sD (Dl sh)] [] λ h r=>h=[]/\r=iD (if PN g then (if sh.length=g.length then 0 else 19) else 20):=by
 refine Dx func66 rfl Aom (by simp[Tryz.f66]) ?_;simp only[go_sem];refine Cq ((Avw g e)) ?_;cases a:decide (PN g)
 . simp only[go_sem,a];rw[if_neg (Bh a)]
 simp only[go_sem,a,J3,Dt];rw[if_pos (Bg a)];cases b:decide ((sh.length:Int)=(g.length:Int))
 . simp only[go_sem,b];rw[if_neg (λ h=>Bh b AQ)]
 . simp only[go_sem,b];rw[if_pos (by have:=Bg b;omega)]
def Asl(g:Ab)(D:Aa)(v:Nat):Int:=if 0<D.getD v 0 then ((g.getD v []).find? (λ w=>decide (D.getD w.toNat 0=D.getD v 0 - 1))).getD (-1) else -1
theorem Ain{g}(a:PN g)(sh){EN}(Pl:EN<g.length){v}(b:v<g.length):-1<=(IF g sh EN).getD v 0/\(IF g sh EN).getD v 0<=24:=by
 rcases (Apq a sh EN Pl).2 v b with h | h | h<;>omega
theorem Auh{g}(f:PN g){u}(m:u<g.length):(g.getD u []).length<=24:=by
 have o:=f.2 u m;have key:∀k,k<=(g.getD u []).length->∀j,j<k->(j:Int)<=(g.getD u []).getD j 0:=by
   intro k
   induction k with
   | zero=>intro _ j l;omega
   | succ k a=>
     intro p j l;rcases BL.1 l with e | rfl
     . exact a AQ j e
     . have b:=o j AQ;unfold Tb at b;rcases j with _ | j
       . exact b.1
       . have n:=a AQ j AQ;have i:=b.2.2.2 AQ;rw[show j+1 - 1=j from rfl] at i;omega
 have q:=f.1;rcases Nat.eq_zero_or_pos (g.getD u []).length with e | e
 . omega
 . have b:=key _ (Bk _) ((g.getD u []).length - 1) AQ;obtain ⟨w,n,i,_⟩:=Abz f m (k:=(g.getD u []).length - 1) AQ;omega
def jm1(j:Nat):Int:=(j:Int) - 1
theorem Bjl(g)(sh)(EN)(z:PN g)(Z:sh.length=g.length)(Pl:EN<g.length):
   C3 prog 161 [sD (Dy g),sD (Dl sh),iD (EN:Nat)] [] λ h r=>h=[]/\∃o:Aa,r=sD (CS o)/\o.length=g.length/\∀v,v<g.length->o.getD v 0=Asl g (IF g sh EN) v:=by
 have hlen:=z.1;have i:=Y6 g sh EN;have U:∀v,v<g.length->-1<=(IF g sh EN).getD v 0/\(IF g sh EN).getD v 0<=24:=λ v hv=>Ain z sh Pl hv;have hd:=Al5 g sh EN z Z Pl;refine Dx func161 rfl Ahq (by simp[Tryz.f161]) ?_;simp only[go_sem];refine Cq ((hd)) ?_;generalize IF g sh EN=ds at*;clear hd;simp only[go_sem,Dt];refine ⟨AQ,?_⟩;refine Dq (λ q:Nat×Aa=>⟨[(0,sD (Dy g)),(7,sD (CS ds)),(8,rD 18 g),(9,iD (q.1:Nat))],[(18,.arr 3 1 (CS q.2))],67⟩)
   (λ q=>q.1<=g.length/\q.2.length=g.length/\∀v,v<q.1->q.2.getD v 0=Asl g ds v) (λ q=>g.length - q.1) (0,List.replicate g.length 0) ⟨BQ _,AT,λ j hj=>absurd hj (B6 _)⟩ (Wk.forget Ba) ?_
 rintro ⟨v,o⟩ m ⟨hv,t,FE⟩ ih;simp only at hv t FE;simp only[go_sem,Dt];refine D5 (λ h2=>?_) (λ h2=>?_);rotate_left
 . simp only[go_sem];refine Ds ?_;simp only[go_sem];have:v=g.length:=by simp at h2;omega
   subst this;refine ⟨by rw[C0];omega,o,?_,t,FE⟩;rw[BA (by rw[C0];omega)]
 have a:v<g.length:=by simp at h2;omega
 have R:=DQ v AQ;have b:(0:Int)<=(v:Int)/\(v:Int)<(g.length:Int):=AQ;have E:=QF g v a;have Ek:∀k,k<(g.getD v []).length->∃w:Nat,(g.getD v []).getD k 0=(w:Int)/\w<g.length/\w≠v:=λ k hk=>Abz z a hk;have a7:=Auh z a;have l:=Fi ds v AQ;have a3:=U v a;have H:Asl g ds v=if 0<ds.getD v 0 then ((g.getD v []).find? (λ w=>decide (ds.getD w.toNat 0=ds.getD v 0 - 1))).getD (-1) else -1:=rfl
 generalize g.getD v []=row at*;generalize a6:ds.getD v 0=dv at*;have a2:i64.wrap ((row.length:Int) - 1)=jm1 row.length:=by unfold jm1;rw[C5]<;>omega
 simp only[go_sem,Dt,C0,t,Be,b,E,a2];refine Dq (λ j:Nat=>⟨[(0,sD (Dy g)),(7,sD (CS ds)),(8,rD 18 g),(9,iD (v:Nat)),(10,iD (jm1 j))],
     [(18,.arr 3 1 (CS (o.set v (((row.drop j).find? (λ w=>decide (ds.getD w.toNat 0=dv - 1))).getD (-1)))))],67⟩)
   (λ j=>j<=row.length/\(j=row.length∨0<dv)) (λ j=>j) row.length ⟨Bk _,.inl rfl⟩ (Wk.forget (by simp[ZF,On,QD,List.drop_length])) ?_
 rintro j m2 ⟨hj,K⟩ VZ;have Aaf:∀x,∀u,u<v+1->x=Asl g ds v->(o.set v x).getD u 0=Asl g ds u:=λ x u T hx=>by
   rw[MO];by_cases e:v=u
   . subst e;rw[if_pos ⟨rfl,AQ⟩];exact hx
   . rw[if_neg (λ h=>e h.1)];exact FE u AQ
 rcases j with _ | j
 . have hz:¬(0:Int)<=jm1 0:=by unfold jm1;omega
   simp only[go_sem,hz,R];refine ih (v+1,o.set v ((row.find? (λ w=>decide (ds.getD w.toNat 0=dv - 1))).getD (-1))) _ ⟨a,by simp[t],λ u T=>Aaf _ u T ?_⟩ A0 ?_
   . rw[H];rcases K with f | f
     . have:row=[]:=List.length_eq_zero_iff.1 f.symm;subst this;simp
     . rw[if_pos f]
   . (refine Wk.forget ?_;simp[ZF];done)
 . have I:jm1 (j+1)=(j:Int):=by unfold jm1;omega
   have N:(0:Int)<=(j:Int):=AQ;have Q:i64.wrap ((j:Int) - 1)=jm1 j:=by unfold jm1;rw[C5]<;>omega
   cases s:decide (0<dv)
   . have Y:j+1=row.length:=by
       rcases K with f | f
       . exact f
       . exact absurd f (Bh s)
     have Be1:row.drop (j+1)=[]:=by rw[Y];simp
     rw[Be1];simp only[go_sem,I,N,C0,i,Be,b,l,s,R];refine ih (v+1,o.set v (-1)) _ ⟨a,by simp[t],λ u T=>Aaf _ u T ?_⟩ A0 ?_
     . rw[H,if_neg (Bh s)]
     . (refine Wk.forget ?_;simp[ZF];done)
   have n:j<row.length:=AQ;obtain ⟨w,hw,a4,a5⟩:=Ek j n;have B:=Fi row j n;rw[hw] at B;have W:(0:Int)<=(j:Int)/\(j:Int)<(row.length:Int):=AQ;have a0:(0:Int)<=(w:Int)/\(w:Int)<(g.length:Int):=AQ;have V:=Fi ds w AQ;have a1:i64.wrap (dv - 1)=dv - 1:=by rw[C5]<;>omega
   have y:row.drop j=(w:Int)::row.drop (j+1):=by rw[Ia row j 0 n,hw]
   simp only[go_sem,I,N,C0,Dt,i,Be,b,l,s,E,B,W];refine PU mixed (p:=[(0,0),(1,0),(2,0),(3,0),(4,0),(5,0),(6,0),(7,0),(8,0),(9,0)]) AY A7 ?_;simp only[go_sem,C0,i,Be,b,l,V,a0,a1];cases S:decide (ds.getD w 0=dv - 1)
   . simp only[go_sem,S,Q];refine VZ j _ ⟨AQ,.inr (Bg s)⟩ AQ ?_;rw[y,List.find?_cons_of_neg (by simp only[Be];simpa using Bh S)]
     (refine Wk.forget ?_;simp[ZF];done)
   . simp only[go_sem,S,Q,C0,Bv,t,Be,b];refine VZ j _ ⟨AQ,.inr (Bg s)⟩ AQ ?_;rw[y,List.find?_cons_of_pos (by simp only[Be];exact S)];generalize ((row.drop (j+1)).find? (λ w=>decide (ds.getD w.toNat 0=dv - 1))).getD (-1)=y0;rw[show o.set v ((some (w:Int)).getD (-1))=(o.set v y0).set v (w:Int) by simp,On (o.set v y0)]
     (refine Wk.forget ?_;simp[ZF,QD];done)
theorem Am7(l):PX 1 (CS l):=by
 intro e a;unfold CS at a;obtain ⟨x,_,rfl⟩:=BS.1 a;rfl
theorem Bdp{g}(i:PN g)(sh){EN cur}(Pl:EN<g.length)(f:cur<g.length)(EG:cur≠EN)(h0:0<=(IF g sh EN).getD cur 0):
   ∃w:Nat,Asl g (IF g sh EN) cur=(w:Int)/\w<g.length/\(IF g sh EN).getD w 0=(IF g sh EN).getD cur 0 - 1/\1<=(IF g sh EN).getD cur 0:=by
 have a:=(Apq i sh EN Pl).2 cur f;generalize IF g sh EN=ds at*;rcases a with h | h | ⟨l,h2,w,m,n⟩
 . omega
 . exact absurd h.2 EG
 . unfold Asl;rw[if_pos AQ];have q:((g.getD cur []).find? (λ w=>decide (ds.getD w.toNat 0=ds.getD cur 0 - 1))).isSome:=by
     rw[List.find?_isSome];exact ⟨w,m,Bi n⟩
   obtain ⟨u,e⟩:=Cj.1 q;have o:=List.mem_of_find?_eq_some e;have p:ds.getD u.toNat 0=ds.getD cur 0 - 1:=by have:=List.find?_some e;simpa using this
   obtain ⟨k,j,b⟩:=Ch.1 o;obtain ⟨x,MM,KL,_⟩:=Abz i f j;rw[getD_eq j,b] at MM;rw[e];subst MM;exact ⟨x,rfl,KL,by simpa using p,l⟩
theorem Beg(g)(sh)(src EN)(k:PN g)(j:sh.length=g.length)(Pl:EN<g.length)(Ax3:src<g.length)(h0:0<=(IF g sh EN).getD src 0):
   C3 prog 111 [sD (Dy g),sD (Dl sh),iD (src:Nat),iD (EN:Nat)] [] λ h r=>h=[]/\∃o:Aa,r=sD (CS o)/\1<=o.length/\o.length<=26:=by
 have n:=Y6 g sh EN;have Brz:∀cur,cur<g.length->cur≠EN->0<=(IF g sh EN).getD cur 0->_:=λ cur a EG h=>Bdp k sh Pl a EG h;have Byq:=(Ain k sh Pl Ax3).2;have z:=Al5 g sh EN k j Pl;have E:=Bjl g sh EN k j Pl;refine Dx func111 rfl YZ (by simp[Tryz.f111]) ?_;simp only[go_sem];refine Cq ((z)) ?_;generalize IF g sh EN=ds at*;clear z;have p:=Fi ds src AQ;have v:(0:Int)<=(src:Int)/\(src:Int)<(g.length:Int):=AQ;have Anz:¬ds.getD src 0<0:=AQ;simp only[go_sem,C0,n,Be,p,v,Anz];refine Gn E ?_;rintro N r ⟨rfl,B,rfl,t,u⟩;simp only[go_sem];refine Dq (λ q:Nat×Aa=>⟨[(2,iD (q.1:Nat)),(3,iD (EN:Nat)),(9,sD (CS B)),(10,rD 24 q.2)],[(24,.arr 3 1 (CS q.2))],37⟩)
   (λ q=>q.1<g.length/\0<=ds.getD q.1 0/\1<=q.2.length/\(q.2.length:Int)+ds.getD q.1 0<=25) (λ q=>(ds.getD q.1 0).toNat) (src,[(src:Int)]) ⟨Ax3,h0,Bk _,by show ((1:Nat):Int)+ds.getD src 0<=25;omega⟩ (Wk.forget Ba) ?_
 rintro ⟨cur,o⟩ m ⟨a,b,i,s⟩ K;simp only at a b i s;simp only[go_sem];cases l:decide ((cur:Int)=(EN:Int))
 . have EG:cur≠EN:=λ e=>Bh l (by rw[e]);obtain ⟨w,x,y,H,I⟩:=Brz cur a EG b;have f:=Fi B cur AQ;rw[u cur a,x] at f;have Xx:(0:Int)<=(cur:Int)/\(cur:Int)<(g.length:Int):=AQ;simp only[go_sem,l,C0,t,Be,f,Xx];refine ⟨⟨Lr _ _ rfl,AQ⟩,?_⟩;refine K (w,o++[(w:Int)]) _ ⟨y,by simp only;omega,AT,by show (((o++[(w:Int)]).length:Nat):Int)+ds.getD w 0<=25;rw[Bw,CL];omega⟩ A0 ?_
   (refine Wk.forget ?_;simp[ZF,L6,C0];done)
 . simp only[go_sem,l];refine Ds ?_;simp only[go_sem];refine ⟨by rw[C0],o,?_,i,AQ⟩;rw[Uj _ _ (Bk _)]
theorem Arh(g)(sh)(v)(I:PN g)(n:sh.length=g.length)(H:v<g.length):
   C3 prog 67 [sD (Dy g),sD (Dl sh),iD (v:Nat)] [] λ h r=>h=[]/\∃o:Aa,r=sD (CS o)/\o.length<=30:=by
 have a:=Y6 g sh v;have V:=Al5 g sh v I n H;have Y:=λ src E W=>Beg g sh src v I n H E W;have y:=Qx sh v AQ;have s:(0:Int)<=(v:Int)/\(v:Int)<(g.length:Int):=AQ;refine Dx func67 rfl Aol (by simp[Tryz.f67]) ?_;simp only[go_sem,J3,n,Be,y,s];cases E:sh.getD v false;rotate_left
 . simp only[go_sem,E];refine Ds ?_;simp only[go_sem];exact ⟨[],rfl,AT⟩
 simp only[go_sem,E];refine Cq ((V)) ?_;generalize IF g sh v=ds at*;clear V E y;have Ek:∀k,k<(g.getD v []).length->∃w:Nat,(g.getD v []).getD k 0=(w:Int)/\w<g.length/\w≠v:=λ k Q=>Abz I H Q;have a1:=Auh I H;have z:=QF g v H;generalize g.getD v []=row at*;simp only[go_sem];refine Dq (λ q:Nat×Int=>⟨[(0,sD (Dy g)),(1,sD (Dl sh)),(2,iD (v:Nat)),(7,sD (CS ds)),(8,iD q.2),(9,iD (q.1:Nat))],[],72⟩)
   (λ q=>q.1<=row.length/\(q.2=-1∨∃b:Nat,q.2=(b:Int)/\b<g.length/\0<=ds.getD b 0)) (λ q=>row.length - q.1) (0,-1) ⟨BQ _,.inl rfl⟩ (Wk.forget (by simp[ZF])) ?_
 rintro ⟨k,N⟩ m ⟨Q,hb⟩ K;simp only at Q hb;simp only[go_sem,Dt,C0,Be,z,s];refine D5 (λ U=>?_) (λ U=>?_)
 . have Uf:k<row.length:=by simp at U;omega
   have Rp:=DQ k AQ;obtain ⟨w,hw,R,_⟩:=Ek k Uf;have UL:=Fi row k Uf;rw[hw] at UL;have Lo:(0:Int)<=(k:Int)/\(k:Int)<(row.length:Int):=AQ;have i:(0:Int)<=(w:Int)/\(w:Int)<(g.length:Int):=AQ;have e:=Fi ds w AQ;simp only[go_sem,Dt,C0,Be,z,s,UL,Lo];refine PU mixed (p:=[(0,0),(1,0),(2,0),(3,0),(4,0),(5,0),(6,0),(7,0),(8,0),(9,0),(10,0),(11,0),(12,0),(13,0),(14,0),(15,0),(16,0),(17,0),(18,0),(19,0)]) AY A7 ?_;cases t:decide (0<=ds.getD w 0)
   . simp only[go_sem,C0,a,Be,e,i,t,Rp];refine K (k+1,N) _ ⟨Uf,hb⟩ A0 ?_
     (refine Wk.forget ?_;simp[ZF];done)
   have B:∃b:Nat,(w:Int)=(b:Int)/\b<g.length/\0<=ds.getD b 0:=⟨w,rfl,R,Bg t⟩;rcases hb with rfl | ⟨b,rfl,l,j⟩
   . simp only[go_sem,C0,a,Be,e,i,t,Rp];refine K (k+1,(w:Int)) _ ⟨Uf,.inr B⟩ A0 ?_
     (refine Wk.forget ?_;simp[ZF];done)
   . have u:=Fi ds b AQ;have x:(0:Int)<=(b:Int)/\(b:Int)<(g.length:Int):=AQ;have f:¬(b:Int)<0:=AQ;cases T:decide (ds.getD w 0<ds.getD b 0)
     . simp only[go_sem,C0,a,Be,e,i,t,f,u,x,T,Rp];refine K (k+1,(b:Int)) _ ⟨Uf,.inr ⟨b,rfl,l,j⟩⟩ A0 ?_
       (refine Wk.forget ?_;simp[ZF];done)
     . simp only[go_sem,C0,a,Be,e,i,t,f,u,x,T,Rp];refine K (k+1,(w:Int)) _ ⟨Uf,.inr B⟩ A0 ?_
       (refine Wk.forget ?_;simp[ZF];done)
 . rcases hb with rfl | ⟨b,rfl,l,j⟩
   . simp only[go_sem];refine Ds ?_;simp only[go_sem];exact ⟨[],rfl,AT⟩
   . have f:¬(b:Int)<0:=AQ;simp only[go_sem,f];refine Gn (Y b l j) ?_;rintro h' r ⟨rfl,o,rfl,Z,a0⟩;have S:i64.wrap ((o.length:Int) - 1)=((o.length - 1:Nat):Int):=by rw[C5]<;>omega
     simp only[go_sem,C0,S,Be,Adz];have RX:(o.take (o.length - 1)).length<=o.length:=AT;refine ⟨⟨AQ,Am7 _⟩,?_⟩;refine ⟨⟨Am7 _,AQ⟩,?_⟩;refine Ds ?_;simp only[go_sem];refine ⟨?_,(v:Int)::o.take (o.length - 1),?_,AW⟩
     . simp[CS]
     . simp[CS,List.take_take]
theorem Be9(g)(sh)(n:PN g)(p:YD g)(i:sh.length=g.length):
   C3 prog 36 [sD (Dy g),sD (Dl sh)] [] λ h r=>h=[]/\∃o:Aa,r= .Em [iD (o.length:Nat),sD (CS o),iD 0]/\o.length<=30:=by
 have y:=λ v s=>Arh g sh v n i s;have B:=n.1;refine Dx func36 rfl Aos (by simp[Tryz.f36]) ?_;simp only[go_sem];refine Cq ((Bas g sh p)) ?_;rw[if_pos n,if_pos i];simp only[go_sem];refine Dq (λ q:Nat×Aa=>⟨[(0,sD (Dy g)),(1,sD (Dl sh)),(8,sD (CS q.2)),(9,iD (q.1:Nat))],[],46⟩)
   (λ q=>q.1<=g.length/\q.2.length<=30) (λ q=>g.length - q.1) (0,[]) ⟨BQ _,AT⟩ ((Wk.nil (t:=8) (q:=42) (sz:=1) 3 rfl rfl AV).trans ((Wk.pure (t:=8) (id:=42) (sz:=1) (e:=3) (es:=[]) rfl rfl).trans (Wk.forget Ba))) ?_
 rintro ⟨v,a⟩ m ⟨s,hb⟩ k;simp only at s hb;simp only[go_sem,Dt];refine D5 (λ w=>?_) (λ w=>?_)
 . have b:v<g.length:=by simp at w;omega
   have f:=DQ v AQ;simp only[go_sem];refine Gn (y v b) ?_;rintro z r ⟨rfl,o,rfl,x⟩;simp only[go_sem,C0];cases j:decide (0<(o.length:Int))
   . simp only[go_sem,C0,j,f];refine k (v+1,a) _ ⟨b,hb⟩ A0 ?_
     (refine Wk.forget ?_;simp[ZF];done)
   cases l:decide ((a.length:Int)=0);rotate_left
   . simp only[go_sem,C0,j,l,f];refine k (v+1,o) _ ⟨b,x⟩ A0 ?_
     (refine Wk.forget ?_;simp[ZF];done)
   cases u:decide ((o.length:Int)<(a.length:Int))
   . simp only[go_sem,C0,j,l,u,f];refine k (v+1,a) _ ⟨b,hb⟩ A0 ?_
     (refine Wk.forget ?_;simp[ZF];done)
   . simp only[go_sem,C0,j,l,u,f];refine k (v+1,o) _ ⟨b,x⟩ A0 ?_
     (refine Wk.forget ?_;simp[ZF];done)
 . simp only[go_sem,C0];refine Ds ?_;simp only[go_sem];exact ⟨a,rfl,hb⟩
def OE(n:Nt):Int:=(n.blocks.length:Int)+GL n.CT
theorem Agj{a}{l}(h:JL a l):∀(k i:Nat),i+k<=l.length->GL (l.take i)<=GL (l.take (i+k))
 | 0,_,_=>Int.le_refl _
 | k+1,i,f=>by
   have b:=Agj h k i AQ;have h2:=h (i+k) AQ;obtain ⟨_,_,_,_,e,_,_⟩:=h2;rw[show i+(k+1)=(i+k)+1 by omega,G5 l (i+k) EY AQ,IM];omega
theorem SY{a}{l}(h:JL a l){i}(b:i<l.length):
   (a:Int)<=(l.getD i EY).base/\(l.getD i EY).base+(l.getD i EY).Eg<=(a:Int)+GL l/\(l.getD i EY).base=(a:Int)+GL (l.take i):=by
 obtain ⟨_,_,_,_,f,g,k⟩:=h i b;have e:=SV a l i AQ (λ j m=>h j AQ);have h2:=Agj h (l.length - (i+1)) (i+1) AQ;rw[show i+1+(l.length - (i+1))=l.length by omega,BH,G5 l i EY b,IM] at h2;omega
theorem SW{a}{l}(h:JL a l):0<=GL l/\GL l<=4*l.length:=by
 have:=SV a l l.length (Bk _) h;rw[BH] at this;exact this
theorem Bh2(n)(g:validN n):C3 prog 38 [.agg n.cs] [] λ h r=>h=[]/\r=iD (OE n):=by
 obtain ⟨e,p,q,s,t,QU,u,v⟩:=g;have Bjp:=e.2.1;refine Dx func38 rfl Aoq (by simp[Tryz.f38]) ?_;simp only[go_sem,Nt.cs,DA];refine Dq (λ i:Nat=>⟨[(1,.ptr 1 0),(3,iD ((n.blocks.length:Int)+GL (n.CT.take i))),(4,iD (i:Nat))],[(1,.box (Nt.cs n))],24⟩)
   (λ i=>i<=n.CT.length) (λ i=>n.CT.length - i) 0 (BQ _) (Wk.forget (by simp[ZF,Nt.cs,GL])) ?_
 rintro i m w o;simp only[go_sem,Nt.cs,D9];refine D5 (λ h2=>?_) (λ h2=>?_)
 . have Dv:i<n.CT.length:=by simp at h2;omega
   have l:=DQ i AQ;have f:=Om n.CT i Dv;have FU:(0:Int)<=(i:Int)/\(i:Int)<(n.CT.length:Int):=AQ;have k:=SV n.blocks.length n.CT (i+1) Dv (λ j x=>QU j AQ);have a:GL (n.CT.take (i+1))=GL (n.CT.take i)+(n.CT.getD i EY).Eg:=by rw[G5 n.CT i EY Dv,IM]
   rw[a] at k;have b:i64.wrap ((n.blocks.length:Int)+GL (n.CT.take i)+(n.CT.getD i EY).Eg)=(n.blocks.length:Int)+GL (n.CT.take i)+(n.CT.getD i EY).Eg:=by rw[C5]<;>omega
   simp only[go_sem,Nt.cs,D9,Be,f,FU,b,l];refine o (i+1) _ Dv AQ ?_
   (refine Wk.forget ?_;simp[ZF,Nt.cs,a,Int.add_assoc];done)
 . simp only[go_sem];have:i=n.CT.length:=by simp at h2;omega
   subst this;rw[BH];rfl
def Xh(sh:Ac)(s:Sf):Bool:=!sh.getD s.PJ.toNat false&&(!sh.getD s.out.toNat false&&(List.range s.Eg.toNat).all λ j=>!sh.getD (s.base.toNat+j) false)
theorem Biz(n)(R:validN n)(sh)(z:(sh.length:Int)=OE n)(s)(x:s<n.CT.length):
   C3 prog 68 [.agg n.cs,sD (Dl sh),iD (s:Nat)] [] λ h r=>h=[]/\r=bD (Xh sh (n.CT.getD s EY)):=by
 obtain ⟨N,e2,e3,e4,e5,QU,e7,e8⟩:=R;have Bjp:=N.2.1;obtain ⟨T,U,V,W,Y,Z,i7⟩:=QU s x;obtain ⟨r1,r2,r3⟩:=SY QU x;have FE:=SW QU;have I:=Om n.CT s x;have y:(0:Int)<=(s:Int)/\(s:Int)<(n.CT.length:Int):=AQ;unfold OE at z;refine Dx func68 rfl Aok (by simp[Tryz.f68]) ?_;simp only[go_sem,Nt.cs,D9,Be,I,y];generalize n.CT.getD s EY=sp at*;clear I;obtain ⟨K,H,PJ,out,sl,E⟩:=sp;simp only at T U V W Y Z i7 r1 r2 r3;obtain ⟨a,rfl⟩:∃a:Nat,PJ=(a:Int):=⟨PJ.toNat,AQ⟩;obtain ⟨b,rfl⟩:∃b:Nat,out=(b:Int):=⟨out.toNat,AQ⟩;obtain ⟨c,rfl⟩:∃c:Nat,E=(c:Int):=⟨E.toNat,AQ⟩;obtain ⟨d,rfl⟩:∃d:Nat,sl=(d:Int):=⟨sl.toNat,AQ⟩;have t:=Qx sh a AQ;have hb:=Qx sh b AQ;have e:(0:Int)<=(a:Int)/\(a:Int)<(sh.length:Int):=AQ;have g:(0:Int)<=(b:Int)/\(b:Int)<(sh.length:Int):=AQ;have q:Xh sh ⟨K,H,a,b,d,c⟩=(!sh.getD a false&&(!sh.getD b false&&(List.range d).all λ j=>!sh.getD (c+j) false)):=by simp[Xh]
 cases f:sh.getD a false;rotate_left
 . simp only[go_sem,J3,Be,t,e,f];rw[q,f];simp
 cases l:sh.getD b false;rotate_left
 . simp only[go_sem,J3,Be,t,e,f,hb,g,l];rw[q,f,l];simp
 simp only[go_sem,J3,Be,t,e,f,hb,g,l];rw[q,f,l];refine Dq (λ j:Nat=>⟨[(1,sD (Dl sh)),(7,.ptr 7 0),(8,iD ((c+j:Nat):Int))],[(7,.box [.p (.str K),bD H,iD (a:Nat),iD (b:Nat),iD (d:Nat),iD (c:Nat)])],41⟩)
   (λ j=>j<=d/\∀u,u<j->sh.getD (c+u) false=false) (λ j=>d - j) 0 ⟨BQ _,λ u k=>absurd k (B6 _)⟩ (Wk.forget (by simp[ZF])) ?_
 rintro j m ⟨hj,Blo⟩ ih;have B:i64.wrap ((c:Int)+(d:Int))=(c:Int)+(d:Int):=by rw[C5]<;>omega
 simp only[go_sem,B];refine D5 (λ h2=>?_) (λ h2=>?_)
 . have i:j<d:=by simp at h2;omega
   have S:=DQ (c+j) AQ;have v:=Qx sh (c+j) AQ;have w:(0:Int)<=((c+j:Nat):Int)/\((c+j:Nat):Int)<(sh.length:Int):=AQ;simp only[go_sem,J3,Be,v,w];cases o:sh.getD (c+j) false
   . simp only[go_sem,o,S];refine ih (j+1) _ ⟨i,λ u k=>?_⟩ AQ ?_
     . rcases BL.1 k with Q | rfl
       . exact Blo u Q
       . exact o
     . (refine Wk.forget ?_;simp[ZF,Nat.add_assoc];done)
   . simp only[go_sem,o];have hex:((List.range d).all λ j=>!sh.getD (c+j) false)=false:=by
       rw[List.all_eq_false];exact ⟨j,List.mem_range.2 i,by rw[o];simp⟩
     rw[hex]
 . simp only[go_sem];have:j=d:=by simp at h2;omega
   subst this;have Xz:((List.range j).all λ j=>!sh.getD (c+j) false)=true:=by
     rw[BB];intro u k;rw[Blo u (List.mem_range.1 k)];rfl
   rw[Xz]
def Hu(sh:Ac):List Sf->Int
 | []=>0
 | s::r=>(if s.Fq&&Xh sh s then s.Eg else 0)+Hu sh r
theorem SZ(sh)(l)(s):Hu sh (l++[s])=Hu sh l+(if s.Fq&&Xh sh s then s.Eg else 0):=by
 induction l with
 | nil=>simp[Hu]
 | cons x r a=>simp only[Ce,Hu,a];omega
theorem VH(sh){a}{l}(h:JL a l):∀k,k<=l.length->0<=Hu sh (l.take k)/\Hu sh (l.take k)<=4*k
 | 0,_=>by simp[Hu]
 | k+1,g=>by
   have b:=VH sh h k AQ;obtain ⟨_,_,_,_,e,f,_⟩:=h k AQ;rw[G5 l k EY AQ,SZ];split<;>omega
theorem Bce(n)(p:validN n)(sh)(j:(sh.length:Int)=OE n):
   C3 prog 37 [.agg n.cs,sD (Dl sh)] [] λ h r=>h=[]/\r=iD (Hu sh n.CT):=by
 have q:=λ s u=>Biz n p sh j s u;obtain ⟨v,w,x,y,z,QU,B,E⟩:=p;refine Dx func37 rfl Aor (by simp[Tryz.f37]) ?_;simp only[go_sem,Nt.cs];refine Dq (λ i:Nat=>⟨[(1,sD (Dl sh)),(2,.ptr 2 0),(5,iD (Hu sh (n.CT.take i))),(6,iD (i:Nat))],[(2,.box (Nt.cs n))],35⟩)
   (λ i=>i<=n.CT.length) (λ i=>n.CT.length - i) 0 (BQ _) (Wk.forget (by simp[ZF,Nt.cs,Hu])) ?_
 rintro i m t o;simp only[go_sem,Nt.cs,D9];refine D5 (λ h2=>?_) (λ h2=>?_)
 . have Dv:i<n.CT.length:=by simp at h2;omega
   have k:=DQ i AQ;have g:=Om n.CT i Dv;have FU:(0:Int)<=(i:Int)/\(i:Int)<(n.CT.length:Int):=AQ;have H:=VH sh QU i t;have a:Hu sh (n.CT.take (i+1))=Hu sh (n.CT.take i)+(if (n.CT.getD i EY).Fq&&Xh sh (n.CT.getD i EY) then (n.CT.getD i EY).Eg else 0):=by rw[G5 n.CT i EY Dv,SZ]
   have f:=q i Dv;obtain ⟨_,_,_,_,I,K,_⟩:=QU i Dv;generalize n.CT.getD i EY=s at*;have l:i64.wrap (Hu sh (n.CT.take i)+s.Eg)=Hu sh (n.CT.take i)+s.Eg:=by rw[C5]<;>omega
   generalize Hu sh (n.CT.take i)=S at*;cases b:s.Fq
   . simp only[go_sem,Nt.cs,D9,Be,g,FU,b,k];refine o (i+1) _ Dv AQ ?_
     (refine Wk.forget ?_;simp[ZF,Nt.cs,a,b];done)
   simp only[go_sem,Nt.cs,D9,Be,g,FU,b];refine Cq ((f)) ?_;cases e:Xh sh s
   . simp only[go_sem,e,k];refine o (i+1) _ Dv AQ ?_
     (refine Wk.forget ?_;simp[ZF,Nt.cs,a,b,e];done)
   . simp only[go_sem,Nt.cs,D9,Be,g,FU,b,e,l,k];refine o (i+1) _ Dv AQ ?_
     (refine Wk.forget ?_;simp[ZF,Nt.cs,a,b,e];done)
 . simp only[go_sem];have:i=n.CT.length:=by simp at h2;omega
   subst this;rw[BH]
theorem Amp(n):List.take n (List.replicate n [Pd.bool false])=Dl (List.replicate n false):=by simp[Dl]
theorem Tm{n}(f:validN n):PN n.next/\YD n.next/\n.next.length=n.blocks.length:=by
 obtain ⟨⟨j,h2,a,b⟩,_⟩:=f;refine ⟨⟨AQ,λ i e=>?_⟩,⟨AQ,λ r g=>?_⟩,a⟩
 . rw[a];exact (b i AQ).2.2
 . obtain ⟨i,e,rfl⟩:=Ch.1 g;have:=(b i AQ).2.1;rw[getD_eq e] at this;omega
theorem Abq{n}(a:validN n):smallN n:=by
 have b:=Tm a;obtain ⟨⟨e,h2,f,g⟩,i,j,k,_⟩:=a;exact ⟨AQ,b.2.1,AQ,AQ⟩
theorem Beb(n)(a:validN n):C3 prog 17 [.agg n.cs] [] λ h r=>h=[]/\∃(o:Aa) (sl cap:Int),r= .Em [.agg [iD (o.length:Nat),sD (CS o),iD sl,iD cap],iD 0]/\cap<=sl/\sl=Hu (List.replicate (OE n).toNat false) n.CT:=by
 have q:=Agb n (Abq a);rw[Bi a] at q;obtain ⟨s,g,f⟩:=Tm a;have m:=Be9 n.next (List.replicate n.next.length false) s g AT
 have l:=Bh2 n a;have e:=λ (c:Nat) (b:(c:Int)=OE n)=>Bce n a (List.replicate c false) (by simpa using b);have QU:=a.2.2.2.2.2.1;have Bjp:=a.1.2.1;have t:=a.2.1;have FE:=SW QU;obtain ⟨c,b⟩:∃c:Nat,OE n=(c:Int):=⟨(OE n).toNat,by unfold OE;omega⟩;have Xx:c<=48:=by unfold OE at b;omega
 have e:=e c b.symm;have i:=VH (List.replicate c false) QU n.CT.length (Bk _);rw[BH] at i;rw[b] at l ⊢;rw[Be];generalize Hu (List.replicate c false) n.CT=S at*;rw[f] at m;refine Dx func17 rfl Aow (by simp[Tryz.f17]) ?_;simp only[go_sem,Nt.cs];refine Cq ((q)) ?_;simp only[go_sem,Nt.cs];refine PU mixed (p:=[(0,0),(1,0),(2,0),(3,0),(4,0),(5,1),(6,2),(7,0),(8,0),(9,0),(10,0),(11,0),(12,0),(13,0)]) AY A7 ?_;simp only[go_sem,Nt.cs,DA,Be,B1,Amp];refine ⟨AQ,?_⟩;refine Avi m ?_;rintro u r ⟨rfl,o,rfl,v⟩;simp only[go_sem,Nt.cs];refine PU mixed (p:=[(0,0),(1,0),(2,0),(3,0),(8,1),(4,2),(5,1),(6,2),(7,0),(9,3)]) AY A7 ?_;simp only[go_sem,Nt.cs];refine Gq ((l)) ?_;simp only[go_sem,Nt.cs,Be,B1,Amp];refine ⟨AQ,?_⟩;refine Gq ((e)) ?_;simp only[go_sem,Nt.cs];cases k:decide (0<(o.length:Int))
 . simp only[go_sem,k];refine Ds ?_;simp only[go_sem];exact ⟨o,S,S,rfl,Int.le_refl _,rfl⟩
 . have j:i64.wrap ((o.length:Int) - 1)=(o.length:Int) - 1:=by rw[C5]<;>omega
   simp only[go_sem,k,j];refine Ds ?_;simp only[go_sem];exact ⟨o,S,_,rfl,AQ,rfl⟩
def ZH(s:Sf):Aa:=if s.Fq=true then (List.range s.Eg.toNat).map (λ j=>s.base+((j:Nat):Int)) else []
def JZ(l:List Sf):Aa:=l.flatMap ZH
theorem Vd(l)(s):JZ (l++[s])=JZ l++ZH s:=by simp[JZ]
theorem Agm{s}{x}:x∈ZH s↔inD x s=true:=by
 unfold ZH inD;by_cases h:s.Fq=true
 . rw[if_pos h,h];simp only[BS,List.mem_range,Bool.true_and,Bz,BI];constructor
   . rintro ⟨j,b,rfl⟩;omega
   . rintro ⟨a,h2⟩;exact ⟨(x - s.base).toNat,AQ,AQ⟩
 . have h2:s.Fq=false:=by simpa using h
   rw[if_neg h,h2];simp
theorem Amw(s):(ZH s).Nodup:=by
 unfold ZH;split
 . rw[List.nodup_iff_pairwise_ne,List.pairwise_map];exact (List.pairwise_lt_range).imp λ h=>AQ
 . exact List.nodup_nil
theorem ZG{b}{l}(h:JL b l):∀k,k<=l.length->(JZ (l.take k)).Nodup/\∀x∈JZ (l.take k),x<(b:Int)+GL (l.take k)
 | 0,_=>by simp[JZ]
 | k+1,q=>by
   obtain ⟨f,h2⟩:=ZG h k AQ;have g:=h k AQ;rw[G5 l k EY AQ,Vd,IM];generalize l.getD k EY=s at*;obtain ⟨_,_,_,_,j,m,n⟩:=g;have a:∀x∈ZH s,s.base<=x/\x<s.base+s.Eg:=λ x hx=>by
     have:=Agm.1 hx;unfold inD at this;simp at this;exact ⟨this.2.1,this.2.2⟩
   refine ⟨?_,λ x hx=>?_⟩
   . rw[List.nodup_append];refine ⟨f,Amw s,λ x hx y i e=>?_⟩;have o:=h2 x hx;have p:=a y i;omega
   . rcases BC.1 hx with hx | hx
     . have:=h2 x hx;omega
     . have:=a x hx;omega
theorem Bea(c k):(List.replicate c false).getD k false=false:=by
 simp only[List.getD,CD];split<;>rfl
theorem Awh(c)(s):Xh (List.replicate c false) s=true:=by
 unfold Xh;simp only[Bea];simp
theorem ZD{e}{l}(h:JL e l)(c):∀k,k<=l.length->Hu (List.replicate c false) (l.take k)=((JZ (l.take k)).length:Int)
 | 0,_=>by simp[Hu,JZ]
 | k+1,m=>by
   have a:=ZD h c k AQ;have b:=h k AQ;rw[G5 l k EY AQ,SZ,Vd,Bw,a,Awh];obtain ⟨_,_,_,_,f,g,i⟩:=b;generalize l.getD k EY=s at*;unfold ZH;cases j:s.Fq
   . simp
   . simp;omega
theorem Ax7{i}{l}(h:JL i l)(c){rb:Aa}(k:(rb.length:Int)<Hu (List.replicate c false) l):∃s∈l,∃j:Nat,s.Fq=true/\(j:Int)<s.Eg/\s.base+(j:Int)∉rb:=by
 have b:=ZD h c l.length (Bk _);have h2:=(ZG h l.length (Bk _)).1;rw[BH] at b h2;have EG:¬∀x∈JZ l,x∈rb:=λ f=>by have:=Bla _ rb h2 f;omega
 have:∃x,x∈JZ l/\x∉rb:=Classical.byContradiction λ e=>EG λ x hx=>Classical.byContradiction λ KL=>e ⟨x,hx,KL⟩;obtain ⟨x,hx,KL⟩:=this;obtain ⟨s,g,I3⟩:=List.mem_flatMap.1 hx;have a:=Agm.1 I3;unfold inD at a;simp at a;exact ⟨s,g,(x - s.base).toNat,a.1,AQ,by rw[show s.base+(((x - s.base).toNat:Nat):Int)=x by omega];exact KL⟩
def RP(b i:Nat)(r:Aa):Prop:=r.Pairwise (· < ·)/\(∀x∈r,0<=x/\x<(b:Int)/\x≠(i:Int))/\r.length<=4/\(1<b->(((i+1) % b:Nat):Int)∈r)
theorem RP.row{b i}{r}(h:RP b i r):UE b i r:=by
 intro k e;obtain ⟨f,h2,_,_⟩:=h;have a:=h2 _ (IE r k 0 e);refine ⟨a.1,a.2.1,a.2.2,λ Lo=>?_⟩;rw[getD_eq e,getD_eq (show k - 1<r.length by omega)];exact List.pairwise_iff_getElem.1 f (k - 1) k AQ e AQ
theorem RP.ins{b i}{r}{x}(h:RP b i r)(h0:0<=x)(hb:x<(b:Int))(j:x≠(i:Int))(k:x∉r)(m:r.length<4):RP b i (Tg r x):=by
 obtain ⟨f,h2,l,g⟩:=h;refine ⟨Bda r x f k,λ y e=>?_,by rw[Bd9];omega,λ a=>(Acr r x _).2 (.inr (g a))⟩;rcases (Acr r x y).1 e with rfl | e
 . exact ⟨h0,hb,j⟩
 . exact h2 y e
theorem Ai9(l)(i:Nat):((Dy l)[i]?.getD []).tail=[]:=by
 unfold Dy;rw[BD];cases l[i]?<;>rfl
theorem Bip(l)(at_ b)(bl)(nx)(PW:at_<1000000)(a6:1<=b)(hb:b<=10)(U:bl.length=b)(a1:nx.length=b)(Bzb:∀i,i<b->nx.getD i []=[]):
   C3 prog 16 [.ptr 1000000 0,.ptr 1000001 0]
     [(1000000,.box (Fu l at_)),(1000001,.box [.ref 1000002 0 b b,.ref 1000003 0 b b,.cl [],.cl [],iD 0,iD 0,iD 0,iD 0]),(1000002,.arr 53 3 (FF bl)),(1000003,.arr 23 1 (Dy nx))]
     λ h r=>∃v s,v<=at_+20/\s.length=b/\(∀i,i<b->RP b i (s.getD i []))/\r= .Em []/\
       h=[(1000000,.box (Fu l v)),(1000001,.box [.ref 1000002 0 b b,.ref 1000003 0 b b,.cl [],.cl [],iD 0,iD 0,iD 0,iD 0]),(1000002,.arr 53 3 (FF bl)),(1000003,.arr 23 1 (Dy s))]:=by
 refine Dx func16 rfl Bgb (by simp[Tryz.f16]) ?_;simp only[go_sem,Fu];refine ⟨by rw[DA];exact U.symm,?_⟩;refine Dq (λ q:Nat×Ab=>⟨[(0,.ptr 1000000 0),(1,.ptr 1000001 0),(4,iD (b:Nat)),(5,iD (q.1:Nat))],
     [(1000000,.box [sD (CS l),iD (at_:Nat)]),(1000001,.box [.ref 1000002 0 b b,.ref 1000003 0 b b,.cl [],.cl [],iD 0,iD 0,iD 0,iD 0]),(1000002,.arr 53 3 (FF bl)),(1000003,.arr 23 1 (Dy q.2))],98⟩)
   (λ q=>q.1<=b/\q.2.length=b/\(∀j,j<q.1->RP b j (q.2.getD j []))/\(∀j,q.1<=j->j<b->q.2.getD j []=[])) (λ q=>b - q.1) (0,nx) ⟨BQ _,a1,λ j B=>absurd B (B6 _),λ j _ B=>Bzb j B⟩ (Wk.forget (by simp[ZF,Dy])) ?_
 rintro ⟨i,g⟩ m ⟨hi,o,Be2,Bdl⟩ ih;simp only at hi o Be2 Bdl;cases t:decide ((i:Int)<(b:Int))
 case' true=>cases K:decide (1<(b:Int))
 case true.true=>
   have V:i<b:=by have:=Bg t;omega
   have a7:1<b:=by have:=Bg K;omega
   have hw:=DQ i AQ;have Ao0:((i+1:Nat):Int).tmod (b:Int)=(((i+1) % b:Nat):Int):=by rw[Int.tmod_eq_emod_of_nonneg AQ];omega
   have EG:¬(b:Int)=0:=AQ;have FU:(0:Int)<=(i:Int)/\(i:Int)<(b:Int):=AQ;simp only[go_sem,t,K];refine PU mixed (p:=[(0,0),(1,0),(2,0),(3,0),(4,0),(5,0),(6,0),(7,0),(8,0),(9,1),(10,0),(11,3)]) AY A7 ?_;simp only[go_sem,hw,Ao0,EG,Dt,o,Be,FU];refine ih (i+1,g.set i [(((i+1) % b:Nat):Int)]) _ ⟨V,by simpa using o,λ j B=>?_,λ j B Y=>?_⟩ A0 ?_
   . rw[MO];by_cases e:i=j
     . subst e;rw[if_pos ⟨rfl,AQ⟩];have hm:(i+1) % b<b:=Nat.mod_lt _ AQ;have E:(i+1) % b≠i:=by
         intro h;rcases Nat.lt_or_ge (i+1) b with h5 | h5
         . rw[Nat.mod_eq_of_lt h5] at h;omega
         . have:i+1=b:=AQ;rw[this,Nat.mod_self] at h;omega
       refine ⟨List.pairwise_singleton _ _,λ x hx=>?_,AT,λ _=>AT⟩;rw[BF] at hx;subst hx;omega
     . rw[if_neg (λ h=>e h.1)];exact Be2 j AQ
   . rw[MO,if_neg AQ];exact Bdl j AQ Y
   . (refine Wk.forget ?_;simp[ZF,Ap6,Ai9,CS];done)
 case' true.false=>
   have a5:b=1:=by have:=Bh K;omega
   have Og:i=0:=by have:=Bg t;omega
   have y:∀u,u<b->RP b u (g.getD u []):=λ u H=>by
     rw[Bdl u AQ H];exact ⟨List.Pairwise.nil,λ x hx=>absurd hx AT,AT,λ h=>absurd h AQ⟩
   simp only[go_sem,t,K]
 case' false=>
   have a9:i=b:=by have:=Bh t;omega
   have y:∀u,u<b->RP b u (g.getD u []):=λ u H=>Be2 u AQ;simp only[go_sem,t]
 all_goals
   refine Cq ((Hq l at_ 4 AQ (EX _ AQ AQ))) ?_;obtain ⟨k0,Lo,b0⟩:=FT l at_ 4 AQ;simp only[go_sem,Fu,Lo];refine Dq (λ q:Nat×Nat×Ab=>⟨[(0,.ptr 1000000 0),(1,.ptr 1000001 0),(4,iD (b:Nat)),(6,iD (q.1:Nat))],
       [(1000000,.box [sD (CS l),iD (q.2.1:Nat)]),(1000001,.box [.ref 1000002 0 b b,.ref 1000003 0 b b,.cl [],.cl [],iD 0,iD 0,iD 0,iD 0]),(1000002,.arr 53 3 (FF bl)),(1000003,.arr 23 1 (Dy q.2.2))],98⟩)
     (λ q=>q.1<=3/\q.2.1<=at_+1+3*(3 - q.1)/\q.2.2.length=b/\∀i,i<b->RP b i (q.2.2.getD i [])) (λ q=>q.1) (k0,at_+1,g) ⟨by simp only;omega,by simp only;omega,o,y⟩ (Wk.forget (by simp[ZF,Dy])) ?_
   rintro ⟨k,a,n⟩ m2 ⟨a0,Xz,Aai,Akp⟩ VZ;simp only at a0 Xz Aai Akp;cases N:decide (0<(k:Int))
   . simp only[go_sem,N];refine DF ?_;simp only[go_sem];refine ⟨a,n,AQ,Aai,Akp,?_⟩;first | exact ⟨rfl,rfl⟩ | rfl | simp
   cases R:decide (2<(b:Int))
   . simp only[go_sem,N,R];refine DF ?_;simp only[go_sem];refine ⟨a,n,AQ,Aai,Akp,?_⟩;first | exact ⟨rfl,rfl⟩ | rfl | simp
   have b1:1<=k:=by have:=Bg N;omega
   obtain ⟨k,rfl⟩:∃j,k=j+1:=⟨k - 1,AQ⟩;have Rp:=ND k AQ;have a8:2<b:=by have:=Bg R;omega
   have z:(0:Int)<(b:Int):=AQ;obtain ⟨f,W,a2⟩:=FT l a b z;obtain ⟨jj,Z,a3⟩:=FT l (a+1) b z;have Bdv:(0:Int)<=(f:Int)/\(f:Int)<(b:Int):=AQ;have Rv:=QF n f AQ;have a4:=(Akp f AQ).2.2.1;simp only[go_sem,N,R];refine Cq ((Hq l a b AQ (EX _ AQ AQ))) ?_;simp only[go_sem,Fu,W];refine Cq ((Hq l (a+1) b AQ (EX _ AQ AQ))) ?_;simp only[go_sem,Fu,Z];refine Cq ((Hq l (a+1+1) 3 AQ (EX _ AQ AQ))) ?_;simp only[go_sem,Fu];have Bdr:(((f:Int)+2)).tmod (b:Int)=(((f+2) % b:Nat):Int):=by
     rw[show (f:Int)+2=((f+2:Nat):Int) by omega,Int.tmod_eq_emod_of_nonneg AQ];exact (Int.natCast_emod _ _).symm
   have I:i64.wrap ((f:Int)+2)=(f:Int)+2:=by rw[C5]<;>omega
   have Bse:¬(b:Int)=0:=AQ;have E:(f+2) % b<b:=Nat.mod_lt _ AQ;cases d3:decide (0<Vh l (a+1+1) 3)
   case' true=>generalize (f+2) % b=J at Bdr E
   case' false=>
     obtain ⟨J,e0⟩:∃J,J=jj:=⟨jj,rfl⟩;subst e0
   all_goals
     have w:(0:Int)<=((J:Nat):Int)/\((J:Nat):Int)<(b:Int):=AQ;cases S:decide ((f:Int)=((J:Nat):Int));rotate_left
     . simp only[go_sem,d3,Rp,I,Bdr,Bse,S];refine VZ (k,a+1+1+1,n) _ ⟨by simp only;omega,by simp only;omega,Aai,Akp⟩ A0 ?_
       (refine Wk.forget ?_;simp[ZF];done)
     simp only[go_sem,d3,Rp,I,Bdr,Bse,S,Dt,Aai,Be,Rv,Bdv];refine Cq ((Be5 (n.getD f []) ((J:Nat):Int) AQ)) ?_;cases Q:decide (((J:Nat):Int)∈n.getD f []);rotate_left
     . simp only[go_sem,Q,Rp];refine VZ (k,a+1+1+1,n) _ ⟨by simp only;omega,by simp only;omega,Aai,Akp⟩ A0 ?_
       (refine Wk.forget ?_;simp[ZF];done)
     cases T:decide (((n.getD f []).length:Int)<4)
     . simp only[go_sem,Q,Dt,C0,Aai,Be,Rv,Bdv,T,Rp];refine VZ (k,a+1+1+1,n) _ ⟨by simp only;omega,by simp only;omega,Aai,Akp⟩ A0 ?_
       (refine Wk.forget ?_;simp[ZF];done)
     simp only[go_sem,Q,Dt,C0,Aai,Be,Rv,Bdv,T];refine PU mixed (p:=[(0,0),(1,0),(2,0),(3,0),(4,0),(5,0),(6,0),(7,0),(8,0),(9,0),(10,0),(11,0),(12,0),(13,2),(14,0),(15,3)]) AY A7 ?_;simp only[go_sem,Dt,C0,Aai,Be,Rv,Bdv];refine Gq ((Aww (n.getD f []) ((J:Nat):Int) AQ)) ?_;simp only[go_sem,Dt,Aai,Be,Bdv,Rp];refine VZ (k,a+1+1+1,n.set f (Tg (n.getD f []) ((J:Nat):Int))) _ ⟨by simp only;omega,by simp only;omega,by simpa using Aai,λ u H=>?_⟩ A0 ?_
     . rw[MO];by_cases e:f=u
       . subst e;rw[if_pos ⟨rfl,AQ⟩];exact (Akp f H).ins w.1 w.2 (λ h=>Bh S h.symm) (Bh Q) (by have:=Bg T;omega)
       . rw[if_neg (λ h=>e h.1)];exact Akp u H
     . (refine Wk.forget ?_;simp[ZF,Ap6,Ai9];done)
def Ati(i:Nat):Ad:=if i<10 then [UInt8.ofNat (48+i)] else [UInt8.ofNat (48+i / 10),UInt8.ofNat (48+i % 10)]
theorem Bgr(i)(h:i<100):Ik i=Ati i:=by
 unfold Ati;by_cases a:i<10
 . rw[if_pos a,Hi i a]
 . rw[if_neg a,QL i a,Hi (i / 10) AQ];rfl
theorem Bgq:∀i,i<24->∀j,j<24->Ati i=Ati j->i=j:=AV
theorem Bj9:∀i,i<24->ME (98::Ati i)=true:=AV
theorem Bj8:∀i,i<24->ME (115::Ati i)=true:=AV
structure All(n:Nt):Prop where
 nb:1<=n.blocks.length/\n.blocks.length<=10
 bl:∀i,i<n.blocks.length->(n.blocks.getD i TT).name=98::Ik i/\xyP (n.blocks.getD i TT)
 nl:n.next.length=n.blocks.length
 nx:∀i,i<n.blocks.length->RP n.blocks.length i (n.next.getD i [])
 ns:3<=n.CT.length/\n.CT.length<=5
 sp:∀i,i<n.CT.length->(n.CT.getD i EY).name=115::Ik i/\(i=0->(n.CT.getD i EY).Fq=true)/\(i=1∨i=2->(n.CT.getD i EY).Fq=false)
 ss:JL n.blocks.length n.CT
 rl:n.C7.length<=3
 rb:Nu n.CT n.C7
 cf:UM n.cq n.ca n.cd n.cp
theorem As3{n}(i)(a:i<(Kk n).length):(Kk n).getD i []=if i<n.blocks.length then (n.blocks.getD i TT).name else (n.CT.getD (i - n.blocks.length) EY).name:=by
 have b:(Kk n).length=n.blocks.length+n.CT.length:=by simp[Kk]
 have H8:i<n.blocks.length+n.CT.length:=AQ;rw[getD_eq a];unfold Kk at a ⊢;by_cases h:i<n.blocks.length
 . rw[if_pos h,List.getElem_append_left (by simpa using h),List.getElem_map,getD_eq h]
 . rw[if_neg h,List.getElem_append_right (by simpa using h),List.getElem_map,getD_eq (show i - n.blocks.length<n.CT.length by omega)];simp
theorem All.valid{n}(h:All n):validN n:=by
 obtain ⟨u,f,v,l,H,m,x,I,w,cf⟩:=h;refine ⟨⟨u.1,AQ,v,λ i b=>⟨(f i b).2,(l i b).2.2.1,(l i b).row⟩⟩,AQ,λ i b=>?_,AQ,cf,x,w,?_⟩
 . have E:(Kk n).length=n.blocks.length+n.CT.length:=by simp[Kk]
   have key:∀j,j<(Kk n).length->∃c d,(Kk n).getD j []=c::Ati d/\d<24/\((j<n.blocks.length/\c=98/\d=j)∨(n.blocks.length<=j/\c=115/\d=j - n.blocks.length)):=by
     intro j t;rw[As3 j t];by_cases a:j<n.blocks.length
     . rw[if_pos a,(f j a).1,Bgr j AQ];exact ⟨98,j,rfl,AQ,.inl ⟨a,rfl,rfl⟩⟩
     . rw[if_neg a,(m (j - n.blocks.length) AQ).1,Bgr _ AQ];exact ⟨115,j - n.blocks.length,rfl,AQ,.inr ⟨AQ,rfl,rfl⟩⟩
   obtain ⟨c,d,a,h2,g⟩:=key i b;refine ⟨?_,λ k B=>?_⟩
   . rw[a];rcases g with ⟨_,rfl,_⟩ | ⟨_,rfl,_⟩
     . exact Bj9 d h2
     . exact Bj8 d h2
   . obtain ⟨y,o,q,r,s⟩:=key k AQ;rw[a,q];intro e;rw[List.cons.injEq] at e;have z:=Bgq d h2 o r e.2;rcases g with ⟨_,rfl,rfl⟩ | ⟨_,rfl,rfl⟩<;>rcases s with ⟨_,rfl,rfl⟩ | ⟨_,rfl,rfl⟩
     . omega
     . exact absurd e.1 AV
     . exact absurd e.1 AV
     . omega
 . have p:=(m 0 AQ).2.1 rfl;rw[List.length_filter_pos_iff];exact ⟨_,IE n.CT 0 EY AQ,p⟩
theorem L2{α:Type}(l)(x y:α)(i):(l++[x]).getD i y=if i<l.length then l.getD i y else if i=l.length then x else y:=by
 simp only[List.getD];by_cases h:i<l.length
 . rw[if_pos h,Cw h]
 . rw[if_neg h,CI AQ];by_cases h2:i=l.length
   . rw[if_pos h2,h2];simp
   . rw[if_neg h2];have:1<=i - l.length:=AQ;obtain ⟨m,a⟩:∃m,i - l.length=m+1:=⟨i - l.length - 1,AQ⟩;rw[a];simp
def Bp3(a:List Blk):Prop:=∀i,i<a.length->(a.getD i TT).name=98::Ik i/\xyP (a.getD i TT)
theorem Baz{a}(h:Bp3 a)(x y)(hx:-4<=x/\x<=4)(f:-4<=y/\y<=4):Bp3 (a++[⟨98::Ik a.length,x,y⟩]):=by
 intro i e;rw[L2];by_cases b:i<a.length
 . rw[if_pos b];exact h i b
 . have h2:i=a.length:=by simp at e;omega
   rw[if_neg b,if_pos h2,h2];exact ⟨rfl,by unfold xyP;simp only;omega⟩
def Amu(a:Nat)(l:List Sf):Prop:=∀i,i<l.length->(l.getD i EY).name=115::Ik i/\(i=0->(l.getD i EY).Fq=true)/\(i=1∨i=2->(l.getD i EY).Fq=false)/\Vc a (a+GL (l.take i)) (l.getD i EY)
theorem Ajw{sp}{rb}{x}(h:Nu sp rb)(b:sp.any (inD x)=true)(h2:x∉rb):Nu sp (rb++[x]):=by
 intro i f;rw[L2];by_cases a:i<rb.length
 . rw[if_pos a,List.take_append_of_le_length AQ];exact h i a
 . have e:i=rb.length:=by simp at f;omega
   subst e;rw[if_neg a,if_pos rfl,List.take_left' rfl];exact ⟨b,h2⟩
theorem Amu.CT{a}{l}(h:Amu a l):JL a l:=λ i b=>(h i b).2.2.2
theorem Amu.rng{a}{l}(h:Amu a l):0<=GL l/\GL l<=4*l.length:=SW h.CT
theorem Amu.snoc{a}{l}(h:Amu a l)(dp)(x y z)(hx:0<=x/\x<(a:Int))(b:0<=y/\y<(a:Int))(e:1<=z/\z<=4)(h0:l.length=0->dp=true)(f:l.length=1∨l.length=2->dp=false):
   Amu a (l++[⟨115::Ik l.length,dp,x,y,z,(a:Int)+GL l⟩]):=by
 intro i j;rw[L2];by_cases h2:i<l.length
 . rw[if_pos h2,List.take_append_of_le_length AQ];exact h i h2
 . have g:i=l.length:=by simp at j;omega
   subst g;rw[if_neg h2,if_pos rfl,List.take_left' rfl];exact ⟨rfl,h0,f,hx.1,hx.2,b.1,b.2,e.1,e.2,rfl⟩
def Nt.os(n:Nt):Ai:=[.ref 0 0 n.blocks.length n.blocks.length,.ref 1 0 n.next.length n.next.length,.ref 2 0 n.CT.length n.CT.length,.ref 3 0 n.C7.length n.C7.length,.p (.int .i64 n.cq),.p (.int .i64 n.ca),.p (.int .i64 n.cd),.p (.int .i64 n.cp)]
theorem Bcu(R:Nt->Int->Prop)(hR:∀n:Nt,validN n->C3 prog 17 [.agg n.cs] [] λ h r=>h=[]/\∃(o:Aa) (sl cap:Int),r= .Em [.agg [iD (o.length:Nat),sD (CS o),iD sl,iD cap],iD 0]/\cap<=sl/\sl=Hu (List.replicate (OE n).toNat false) n.CT/\R n cap)
   (l) (at_ Nv) (PW:at_<100000) (h8:1<=Nv) (h9:Nv<=10):
   C3 prog 7 [.ptr 1000000 0,iD (Nv:Nat)] [(1000000,.box (Fu l at_))]
     λ h r=>∃a8 n,a8<=at_+200/\(All n/\∃cap,R {n with C7:=[]} cap/\(n.C7.length=0∨(n.C7.length:Int)<=cap))/\h=[(1000000,.box (Fu l a8)),(0,.arr 53 3 (FF n.blocks)),(1,.arr 23 1 (Dy n.next)),(2,.arr 57 6 (Gy n.CT)),(3,.arr 3 1 (CS n.C7))]/\r= .agg n.os:=by
 refine Dx func7 rfl Bk0 (by simp[Tryz.f7]) ?_;simp only[go_sem,Fu];refine Cq ((Hq l at_ Nv AQ (EX _ AQ AQ))) ?_;obtain ⟨k0,Lo,d6⟩:=FT l at_ Nv AQ;have Brm:i64.wrap (1+(k0:Int))=((k0+1:Nat):Int):=by rw[C5]<;>omega
 simp only[go_sem,Fu,Lo,Brm];refine Dq (λ q:Nat×Nat×List Blk=>⟨[(0,.ptr 1000000 0),(4,.ptr 4 0),(5,.ptr 5 0),(6,iD (q.1:Nat))],
     [(1000000,.box [sD (CS l),iD (q.2.1:Nat)]),(4,.box [.cl [],.cl [],.cl [],.cl [],iD 0,iD 0,iD 0,iD 0]),
      (5,.box [rD 43 q.2.2,rD 48 q.2.2,.cl [],.cl [],iD 0,iD 0,iD 0,iD 0]),(43,.arr 53 3 (FF q.2.2)),(48,.arr 23 1 (Dy (List.replicate q.2.2.length [])))],191⟩)
   (λ q=>q.1+q.2.2.length=k0+1/\q.2.1=at_+1+2*q.2.2.length/\Bp3 q.2.2) (λ q=>q.1) (k0+1,at_+1,[]) ⟨AT,AT,λ i B=>by simp at B⟩
   ((Wk.EP (id:=5) (j:=0) (q:=43) (sz:=3) 53 rfl rfl rfl AV).trans ((Wk.EP (id:=5) (j:=1) (q:=48) (sz:=1) 23 rfl rfl rfl AV).trans (Wk.forget (by simp[ZF,FF,Dy])))) ?_
 rintro ⟨k,a,f⟩ m ⟨hk,ha,a0⟩ ih;simp only at hk ha a0;cases c1:decide (0<(k:Int));rotate_left
 . obtain ⟨k,rfl⟩:∃j,k=j+1:=⟨k - 1,by have:=Bg c1;omega⟩;have Rp:=ND k AQ;obtain ⟨x,hx,i3⟩:=FT l a 9 AQ;obtain ⟨y,hy,i5⟩:=FT l (a+1) 9 AQ;have a6:i64.wrap ((x:Int) - 4)=(x:Int) - 4:=by rw[C5]<;>omega
   have f6:i64.wrap ((y:Int) - 4)=(y:Int) - 4:=by rw[C5]<;>omega
   have c9:=J6 15 f.length AQ;simp only[go_sem,c1,DA];refine Yb [(5,.box [.ref 43 0 f.length f.length,.ref 48 0 f.length f.length,.cl [],.cl [],.p (.int .i64 0),.p (.int .i64 0),.p (.int .i64 0),.p (.int .i64 0)])] mixed (p:=[(0,0),(1,0),(2,0),(5,0),(8,0),(3,2),(4,0),(6,2),(7,0),(9,2),(10,0),(11,0),(12,1),(13,2),(14,0),(15,3)]) AY A7 ?_;simp only[go_sem];refine Gq ((Uv f.length AQ)) ?_;simp only[go_sem];refine ⟨by unfold maxLen;omega,?_⟩;refine Gq ((Hq l a 9 AQ (EX _ AQ AQ))) ?_;simp only[go_sem,Fu,hx,a6];refine Gq ((Hq l (a+1) 9 AQ (EX _ AQ AQ))) ?_;simp only[go_sem,Fu,hy,f6,DA];refine ⟨⟨Lr _ _ rfl,AQ⟩,?_⟩;(try simp only[go_sem]);refine Bi8 rfl Bqm Bnb rfl rfl ?_;simp only[go_sem,Dt,B1];refine ⟨⟨Lr _ _ rfl,AQ⟩,?_⟩;simp only[go_sem,Rp];refine ih (k,a+1+1,f++[⟨98::Ik f.length,(x:Int) - 4,(y:Int) - 4⟩]) _ ⟨AW,AW,Baz a0 _ _ AQ AQ⟩ A0 ?_
   (refine Wk.forget ?_;simp[ZF,Baf,DA,Dy,CS,List.replicate_succ'];done)
 have d7:k=0:=by have:=Bh c1;omega
 subst d7;have d8:f.length=k0+1:=AQ;clear ih Brm;simp only[go_sem,c1,DA];refine Gn (Bip l a f.length f (List.replicate f.length []) AQ AQ AQ rfl AT (λ i B=>by simp[List.getD,B])) ?_;rintro h' r ⟨a2,T,c0,E,d9,rfl,rfl⟩;have Byx:1<=f.length/\f.length<=10:=AQ;have h0:a2<=at_+100:=AQ;clear hk ha d8 Lo d6 c0;simp only[go_sem,Fu,DA];refine Cq ((Hq l a2 3 AQ (EX _ AQ AQ))) ?_;obtain ⟨k3,b1,h4⟩:=FT l a2 3 AQ;have Brl:i64.wrap (3+(k3:Int))=((k3+3:Nat):Int):=by rw[C5]<;>omega
 simp only[go_sem,Fu,b1,Brl];refine Dq (λ q:Nat×Nat×List Sf=>⟨[(0,.ptr 1000000 0),(4,.ptr 4 0),(5,.ptr 5 0),(8,iD ((f.length:Int)+GL q.2.2)),(9,iD (q.1:Nat))],
     [(1000000,.box [sD (CS l),iD (q.2.1:Nat)]),(4,.box [.cl [],.cl [],.cl [],.cl [],iD 0,iD 0,iD 0,iD 0]),
      (5,.box [rD 43 f,rD 48 f,rD 102 q.2.2,.cl [],iD 0,iD 0,iD 0,iD 0]),(43,.arr 53 3 (FF f)),(48,.arr 23 1 (Dy T)),(102,.arr 57 6 (Gy q.2.2))],191⟩)
   (λ q=>q.1+q.2.2.length=k3+3/\q.2.1<=a2+1+4*q.2.2.length/\Amu f.length q.2.2) (λ q=>q.1) (k3+3,a2+1,[]) ⟨AT,AT,λ i B=>by simp at B⟩
   ((Wk.EP (id:=5) (j:=2) (q:=102) (sz:=6) 57 rfl rfl rfl AV).trans (Wk.forget (by simp[ZF,Gy,GL]))) ?_
 rintro ⟨k,a,e⟩ m2 ⟨hk,ha,QU⟩ ih;simp only at hk ha QU;have i1:=QU.rng;cases c2:decide (0<(k:Int));rotate_left
 . obtain ⟨k,rfl⟩:∃j,k=j+1:=⟨k - 1,by have:=Bg c2;omega⟩;have Rp:=ND k AQ;have c9:=J6 15 e.length AQ;have b0:(0:Int)<(f.length:Int):=AQ;by_cases FU:e.length=0
   case' pos=>have w:decide (((e.length:Nat):Int)=0)=true:=Bi AQ
   case' neg=>
     have w:decide (((e.length:Nat):Int)=0)=false:=Bj AQ;by_cases H8:e.length<=2
     case' pos=>have J9:decide (2<((e.length:Nat):Int))=false:=Bj AQ
     case' neg=>have J9:decide (2<((e.length:Nat):Int))=true:=Bi AQ
   all_goals
     simp only[go_sem,c2,D9];refine Yb [(5,.box [.ref 43 0 f.length f.length,.ref 48 0 f.length f.length,.ref 102 0 e.length e.length,.cl [],.p (.int .i64 0),.p (.int .i64 0),.p (.int .i64 0),.p (.int .i64 0)]),(43,.arr 53 3 (FF f))] mixed (p:=[(0,0),(3,0),(4,0),(14,0),(15,0),(16,0),(17,0),(19,0),(20,0),(21,0),(22,0),(24,0),(27,0),(29,1),(1,2),(2,0),(5,0),(6,0),(7,0),(8,0),(9,0),(10,2),(11,0),(12,0),(13,0),(18,2),(23,2),(25,2),(26,0),(28,0),(30,3)]) AY A7 ?_;first | simp only[go_sem,w,J9,DA] | simp only[go_sem,w,DA]
     refine Gq ((Uv e.length AQ)) ?_;first | simp only[go_sem,w,J9,DA] | simp only[go_sem,w,DA]
     refine ⟨by unfold maxLen;omega,?_⟩;first
       | have b6:=Bg J9
         refine Gq ((Hq l a 2 AQ (EX _ AQ AQ))) ?_;simp only[go_sem,Fu,w,J9];obtain ⟨A,hA⟩:∃A,A=a+1:=⟨_,rfl⟩;obtain ⟨g,hD⟩:∃g,g=decide (Vh l a 2=0):=⟨_,rfl⟩;have hE:e.length=0->g=true:=λ h=>AQ;have hN:e.length=1∨e.length=2->g=false:=λ h=>AQ;rw[<-hA]
       | have b6:=Bh J9
         obtain ⟨A,hA⟩:∃A,A=a:=⟨_,rfl⟩;subst hA;obtain ⟨g,hD⟩:∃g,g=false:=⟨_,rfl⟩;have hE:e.length=0->g=true:=λ h=>AQ;have hN:e.length=1∨e.length=2->g=false:=λ _=>hD
       | obtain ⟨A,hA⟩:∃A,A=a:=⟨_,rfl⟩
         subst hA;obtain ⟨g,hD⟩:∃g,g=true:=⟨_,rfl⟩;have hE:e.length=0->g=true:=λ _=>hD;have hN:e.length=1∨e.length=2->g=false:=λ h=>AQ
     obtain ⟨x,hx,i4⟩:=FT l A f.length b0;obtain ⟨y,hy,i6⟩:=FT l (A+1) f.length b0;obtain ⟨z,hz,i7⟩:=FT l (A+1+1) 3 AQ;have f8:i64.wrap (1+(z:Int))=1+(z:Int):=by rw[C5]<;>omega
     have f5:i64.wrap ((f.length:Int)+GL e+(1+(z:Int)))=(f.length:Int)+GL e+(1+(z:Int)):=by rw[C5]<;>omega
     refine Gq ((Hq l A f.length AQ (EX _ AQ AQ))) ?_;simp only[go_sem,Fu,hx];refine Gq ((Hq l (A+1) f.length AQ (EX _ AQ AQ))) ?_;simp only[go_sem,Fu,hy];refine Gq ((Hq l (A+1+1) 3 AQ (EX _ AQ AQ))) ?_;simp only[go_sem,Fu,hz,f8,f5,D9];refine ⟨⟨Lr _ _ rfl,AQ⟩,?_⟩;simp only[go_sem,Rp];refine ih (k,A+1+1+1,e++[⟨115::Ik e.length,g,(x:Int),(y:Int),1+(z:Int),(f.length:Int)+GL e⟩]) _ ⟨AW,AW,QU.snoc _ _ _ _ AQ AQ AQ hE hN⟩ A0 ?_
     (refine Wk.forget ?_;simp[ZF,Bae,D9,IM,Int.add_assoc,hD];done)
 have Bz3:k=0:=by have:=Bh c2;omega
 subst Bz3;have Ue:3<=e.length/\e.length<=5:=AQ;have h1:a<=at_+130:=AQ;clear ih hk ha Brl b1;obtain ⟨K,e0,g0⟩:=FT l a 4 AQ;obtain ⟨Y,e5,g1⟩:=FT l (a+1) 3 AQ;obtain ⟨Z,e6,g2⟩:=FT l (a+1+1) 3 AQ;obtain ⟨N,e7,g3⟩:=FT l (a+1+1+1) 8 AQ;obtain ⟨q5,e8,g4⟩:=FT l (a+1+1+1+1) 3 AQ;have f1:i64.wrap (1+(K:Int))=1+(K:Int):=by rw[C5]<;>omega
 have f3:i64.wrap (1+(N:Int))=1+(N:Int):=by rw[C5]<;>omega
 have f4:i64.wrap (1+(q5:Int))=((q5+1:Nat):Int):=by rw[C5]<;>omega
 have hP:∀rb:Aa,rb.length<=3->Nu e rb->All ⟨f,T,e,rb,1+K,Y,Z,1+N⟩:=λ rb KF JE=>
   ⟨Byx,a0,E,d9,Ue,λ i B=>⟨(QU i B).1,(QU i B).2.1,(QU i B).2.2.1⟩,QU.CT,KF,JE,by unfold UM;simp only;omega⟩
 have hF:C3 prog 17 [.agg [sD (FF f),sD (Dy T),sD (Gy e),sD [],iD (1+K),iD Y,iD Z,iD (1+N)]] [] _:=
   hR ⟨f,T,e,[],1+K,Y,Z,1+N⟩ (hP [] AT (λ i B=>by simp at B)).valid
 have e1:=Ai4 f f.length (Bk _);have e2:=Ai8 T f.length AQ;have e3:=Ai1 e e.length (Bk _);simp only[go_sem,c2];refine Cq ((Hq l a 4 AQ (EX _ AQ AQ))) ?_;simp only[go_sem,Fu,e0,f1];refine Cq ((Hq l (a+1) 3 AQ (EX _ AQ AQ))) ?_;simp only[go_sem,Fu,e5];refine Cq ((Hq l (a+1+1) 3 AQ (EX _ AQ AQ))) ?_;simp only[go_sem,Fu,e6];refine Cq ((Hq l (a+1+1+1) 8 AQ (EX _ AQ AQ))) ?_;simp only[go_sem,Fu,e7,f3,DA,Dt,E,D9,e1,e2,e3];refine Bkv rfl rfl hF (by simp[OI,Bor,ev,get,DA,Dt,E,D9,e1,e2,e3]) ?_;rintro h' r ⟨rfl,o,a7,cap,rfl,Qn,Byk,a9⟩;refine ⟨rfl,?_⟩;simp only[go_sem];refine Cq ((Hq l (a+1+1+1+1) 3 AQ (EX _ AQ AQ))) ?_;simp only[go_sem,Fu,e8,f4];refine Dq (λ q:Nat×Nat×Aa=>⟨[(0,.ptr 1000000 0),(4,.ptr 4 0),(5,.ptr 5 0),(12,.ptr 12 0),(14,iD (q.1:Nat))],
     [(1000000,.box [sD (CS l),iD (q.2.1:Nat)]),(4,.box [.cl [],.cl [],.cl [],.cl [],iD 0,iD 0,iD 0,iD 0]),
      (5,.box [rD 43 f,rD 48 f,rD 102 e,rD 188 q.2.2,iD (1+K),iD Y,iD Z,iD (1+N)]),
      (12,.box [iD (o.length:Nat),.WE,iD a7,iD cap]),(43,.arr 53 3 (FF f)),(48,.arr 23 1 (Dy T)),(102,.arr 57 6 (Gy e)),(188,.arr 3 1 (CS q.2.2))],191⟩)
   (λ q=>q.1+q.2.2.length<=q5+1/\q.2.1+q.1<=a+10/\Nu e q.2.2/\(q.2.2.length=0∨(q.2.2.length:Int)<=cap)) (λ q=>q.1) (q5+1,a+1+1+1+1+1,[]) ⟨AT,by simp only;omega,λ i B=>by simp at B,.inl rfl⟩
   ((Wk.EP (id:=5) (j:=3) (q:=188) (sz:=1) 3 rfl rfl rfl AV).trans (Wk.forget Ba)) ?_
 rintro ⟨k,b,rb⟩ m3 ⟨hk,hb,W,a4⟩ ih;simp only at hk hb W a4;have e4:=Uj rb rb.length (Bk _);cases c3:decide (0<(k:Int))
 . simp only[go_sem,c3];refine DF ?_;simp only[go_sem,DA,Dt,E,D9,C0];refine ⟨b,⟨f,T,e,rb,1+K,Y,Z,1+N⟩,AQ,⟨hP rb AQ W,cap,a9,a4⟩,?_⟩;simp[Nt.os,Fu,E]
 cases c4:decide ((rb.length:Int)<cap)
 . simp only[go_sem,c3,c4,C0];refine DF ?_;simp only[go_sem,DA,Dt,E,D9,C0];refine ⟨b,⟨f,T,e,rb,1+K,Y,Z,1+N⟩,AQ,⟨hP rb AQ W,cap,a9,a4⟩,?_⟩;simp[Nt.os,Fu,E]
 simp only[go_sem,c3,c4,C0];have i0:rb.length<=3:=AQ;have a5:=QU.CT;refine Dq (λ q:Nat×Aa=>⟨[(0,.ptr 1000000 0),(4,.ptr 4 0),(5,.ptr 5 0),(12,.ptr 12 0),(14,iD (k:Nat)),(15,rD 177 q.2),(16,iD (q.1:Nat))],
     [(1000000,.box [sD (CS l),iD (b:Nat)]),(4,.box [.cl [],.cl [],.cl [],.cl [],iD 0,iD 0,iD 0,iD 0]),
      (5,.box [rD 43 f,rD 48 f,rD 102 e,rD 188 rb,iD (1+K),iD Y,iD Z,iD (1+N)]),
      (12,.box [iD (o.length:Nat),.WE,iD a7,iD cap]),(43,.arr 53 3 (FF f)),(48,.arr 23 1 (Dy T)),(102,.arr 57 6 (Gy e)),(188,.arr 3 1 (CS rb)),(177,.arr 3 1 (CS q.2))],191⟩)
   (λ q=>q.1<=e.length/\q.2.length<=4*q.1/\(∀x∈q.2,e.any (inD x)=true/\x∉rb)/\∀u,u<q.1->∀j:Nat,(e.getD u EY).Fq=true->(j:Int)<(e.getD u EY).Eg->(e.getD u EY).base+(j:Int)∈rb∨(e.getD u EY).base+(j:Int)∈q.2)
   (λ q=>e.length - q.1) (0,[]) ⟨BQ _,AT,λ x hx=>by simp at hx,λ u Q=>absurd Q (B6 _)⟩
   ((Wk.nil (t:=15) (q:=177) (sz:=1) 3 rfl rfl AV).trans (Wk.forget Ba)) ?_
 rintro ⟨i,U⟩ m4 ⟨B,d0,a1,Bof⟩ b4;simp only at B d0 a1 Bof;cases c5:decide ((i:Int)<(e.length:Int));rotate_left
 . have hit:i<e.length:=by have:=Bg c5;omega
   have b2:=DQ i AQ;have a3:=Om e i hit;have FU:(0:Int)<=(i:Int)/\(i:Int)<(e.length:Int):=AQ;have JN:=IE e i EY hit;obtain ⟨_,_,_,_,g5,g6,g7⟩:=a5 i hit;obtain ⟨g8,g9,_⟩:=SY a5 hit;generalize e9:e.getD i EY=s at*;simp only[go_sem,c5,D9];refine Dq (λ q:Nat×Aa=>⟨[(0,.ptr 1000000 0),(4,.ptr 4 0),(5,.ptr 5 0),(12,.ptr 12 0),(14,iD (k:Nat)),(15,rD 177 q.2),(16,iD (i:Nat)),(17,iD (q.1:Nat))],
       [(1000000,.box [sD (CS l),iD (b:Nat)]),(4,.box [.cl [],.cl [],.cl [],.cl [],iD 0,iD 0,iD 0,iD 0]),
      (5,.box [rD 43 f,rD 48 f,rD 102 e,rD 188 rb,iD (1+K),iD Y,iD Z,iD (1+N)]),
      (12,.box [iD (o.length:Nat),.WE,iD a7,iD cap]),(43,.arr 53 3 (FF f)),(48,.arr 23 1 (Dy T)),(102,.arr 57 6 (Gy e)),(188,.arr 3 1 (CS rb)),(177,.arr 3 1 (CS q.2))],191⟩)
     (λ q=>q.1<=4/\(q.1:Int)<=s.Eg/\q.2.length<=4*i+q.1/\(∀x∈q.2,e.any (inD x)=true/\x∉rb)/\(∀u,u<i->∀j:Nat,(e.getD u EY).Fq=true->(j:Int)<(e.getD u EY).Eg->(e.getD u EY).base+(j:Int)∈rb∨(e.getD u EY).base+(j:Int)∈q.2)/\∀j:Nat,j<q.1->s.base+(j:Int)∈rb∨s.base+(j:Int)∈q.2)
     (λ q=>4 - q.1) (0,U) ⟨AT,by simp only;omega,by simp only;omega,a1,Bof,λ j hj=>absurd hj (B6 _)⟩ (Wk.forget Ba) ?_
   rintro ⟨j,f2⟩ m5 ⟨d4,d5,Bza,I,Auw,V⟩ b5;simp only at d4 d5 Bza I Auw V;have Anw:(¬((j:Int)<s.Eg)∨s.Fq=false)->∀u,u<i+1->∀j:Nat,(e.getD u EY).Fq=true->(j:Int)<(e.getD u EY).Eg->(e.getD u EY).base+(j:Int)∈rb∨(e.getD u EY).base+(j:Int)∈f2:=by
     intro hx u Q v w S;rcases BL.1 Q with H | rfl
     . exact Auw u H v w S
     . rw[e9] at w S ⊢;rcases hx with hx | hx
       . exact V v AQ
       . rw[hx] at w;cases w
   cases c6:decide ((j:Int)<s.Eg)
   . simp only[go_sem,D9,Be,a3,FU,c6,b2];refine b4 (i+1,f2) _ ⟨hit,by simp only;omega,I,Anw (.inl (Bh c6))⟩ A0 ?_
     (refine Wk.forget ?_;simp[ZF];done)
   cases c7:s.Fq
   . simp only[go_sem,D9,Be,a3,FU,c6,c7,b2];refine b4 (i+1,f2) _ ⟨hit,by simp only;omega,I,Anw (.inr c7)⟩ A0 ?_
     (refine Wk.forget ?_;simp[ZF];done)
   have h3:=Bg c6;have b3:=DQ j AQ;have a6:i64.wrap (s.base+(j:Int))=s.base+(j:Int):=by rw[C5]<;>omega
   have d3:e.any (inD (s.base+(j:Int)))=true:=by
     rw[Cf];exact ⟨s,JN,by unfold inD;rw[c7];simp;omega⟩
   simp only[go_sem,D9,Be,a3,FU,c6,c7,a6,C0,e4];refine Bpw rfl rfl ?_;simp only[go_sem,Bh8];refine Btm (Bjq rb (s.base+(j:Int)) AQ) ?_;rintro h' r ⟨rfl,rfl⟩;simp only[go_sem];cases c8:decide (s.base+(j:Int)∈rb);rotate_left
   . simp only[go_sem,c8,b3];refine b5 (j+1,f2) _ ⟨by simp only;omega,by simp only;omega,by simp only;omega,I,Auw,λ v S=>?_⟩ A0 ?_
     . rcases BL.1 S with H | rfl
       . exact V v H
       . exact .inl (Bg c8)
     . (refine Wk.forget ?_;simp[ZF];done)
   . simp only[go_sem,c8,C0];refine ⟨⟨Lr _ _ rfl,AQ⟩,?_⟩;simp only[go_sem,b3];refine b5 (j+1,f2++[s.base+(j:Int)]) _ ⟨by simp only;omega,by simp only;omega,AW,λ x hx=>?_,λ u Q v w S=>?_,λ v S=>?_⟩ A0 ?_
     . rcases BC.1 hx with hx | hx
       . exact I x hx
       . rw[BF] at hx;subst hx;exact ⟨d3,Bh c8⟩
     . rcases Auw u Q v w S with H | H
       . exact .inl H
       . exact .inr (CC _ H)
     . rcases BL.1 S with H | rfl
       . rcases V v H with h6 | h6
         . exact .inl h6
         . exact .inr (CC _ h6)
       . exact .inr AT
     . (refine Wk.forget ?_;simp[ZF,L6,C0];done)
 have d2:i=e.length:=by have:=Bh c5;omega
 subst d2;obtain ⟨s,hs,j,w,hj,Byu⟩:=Ax7 a5 _ (rb:=rb) (by have:=Bg c4;rw[Byk] at Qn;exact Int.lt_of_lt_of_le this Qn);obtain ⟨u,Q,rfl⟩:=Ch.1 hs;have f9:0<U.length:=by
   have H:=Bof u Q j (by rw[getD_eq Q];exact w) (by rw[getD_eq Q];exact hj);rw[getD_eq Q] at H;exact List.length_pos_of_mem (H.resolve_left Byu)
 obtain ⟨v,S,i2⟩:=FT l b U.length AQ;have h7:1<=k:=by have:=Bg c3;omega
 obtain ⟨k,rfl⟩:∃j,k=j+1:=⟨k - 1,AQ⟩;have Rp:=ND k AQ;have d1:=Fi U v AQ;have f0:(0:Int)<=(v:Int)/\(v:Int)<(U.length:Int):=AQ;have hx:=a1 _ (IE U v 0 AQ);simp only[go_sem,c5,D9];refine Yb [(5,.box [.ref 43 0 f.length f.length,.ref 48 0 f.length f.length,.ref 102 0 e.length e.length,.ref 188 0 rb.length rb.length,.p (.int .i64 (1+K)),.p (.int .i64 Y),.p (.int .i64 Z),.p (.int .i64 (1+N))]),(177,.arr 3 1 (CS U))] mixed (p:=[(0,0),(1,0),(2,0),(3,0),(4,0),(5,0),(6,2),(7,0),(8,0),(9,1),(10,2),(11,0),(12,3)]) AY A7 ?_;simp only[go_sem,C0];refine Gq ((Hq l b U.length AQ (EX _ AQ AQ))) ?_;simp only[go_sem,Fu,S,C0,Be,d1,f0];refine ⟨⟨Lr _ _ rfl,AQ⟩,?_⟩;simp only[go_sem,Rp];refine ih (k,b+1,rb++[U.getD v 0]) _ ⟨AW,by simp only;omega,Ajw W hx.1 hx.2,.inr (by have:=Bg c4;simp;omega)⟩ A0 ?_
 (refine Wk.forget ?_;simp[ZF,L6,C0];done)
theorem Bj6(l)(at_ Nv)(PW:at_<100000)(f:1<=Nv)(g:Nv<=10):
   C3 prog 7 [.ptr 1000000 0,iD (Nv:Nat)] [(1000000,.box (Fu l at_))]
     λ h r=>∃a n,a<=at_+200/\All n/\h=[(1000000,.box (Fu l a)),(0,.arr 53 3 (FF n.blocks)),(1,.arr 23 1 (Dy n.next)),(2,.arr 57 6 (Gy n.CT)),(3,.arr 3 1 (CS n.C7))]/\r= .agg n.os:=
 (Bcu (λ _ _=>True) (λ n j=>(Beb n j).mono λ _ _ ⟨b,o,sl,cap,h2,e,i⟩=>⟨b,o,sl,cap,h2,e,i,trivial⟩) l at_ Nv PW f g).mono
   λ _ _ ⟨a,n,b,h2,e⟩=>⟨a,n,b,h2.1,e⟩
theorem Bj7 (R:Nt->Prop) (DD:∀(l:Aa) (at_ Nv:Nat),at_<100000->1<=Nv->Nv<=10->C3 prog 7 [.ptr 1000000 0,iD (Nv:Nat)] [(1000000,.box (Fu l at_))]
     λ h r=>∃a n,a<=at_+200/\R n/\h=[(1000000,.box (Fu l a)),(0,.arr 53 3 (FF n.blocks)),(1,.arr 23 1 (Dy n.next)),(2,.arr 57 6 (Gy n.CT)),(3,.arr 3 1 (CS n.C7))]/\r= .agg n.os)
   (l) (at_ Nv) (PW:at_<100000) (b:1<=Nv) (e:Nv<=10):
   C3 prog 7 [.ptr 1000000 0,iD (Nv:Nat)] [(1000000,.box (Fu l at_))]
     λ h r=>∃a n,a<=at_+200/\R n/\h=[(1000000,.box (Fu l a))]/\r= .agg n.cs:=by
 refine (DD l at_ Nv PW b e).seal ?_;rintro m r ⟨a,n,k,h2,rfl,rfl⟩;refine Zg ?_;have f:=Ai4 n.blocks n.blocks.length (Bk _);have g:=Ai8 n.next n.next.length (Bk _)
 have i:=Ai1 n.CT n.CT.length (Bk _);have j:=Uj n.C7 n.C7.length (Bk _);unfold Nt.os Fu;simp only[go_sem,DA,Dt,D9,C0,f,g,i,j,Rs.all,R8,B4,List.map_nil];exact ⟨a,n,k,h2,by simp[Nt.cs]⟩
theorem Bno(l)(at_ Nv)(PW:at_<100000)(b:1<=Nv)(e:Nv<=10):
   C3 prog 7 [.ptr 1000000 0,iD (Nv:Nat)] [(1000000,.box (Fu l at_))]
     λ h r=>∃a n,a<=at_+200/\All n/\h=[(1000000,.box (Fu l a))]/\r= .agg n.cs:=Bj7 All Bj6 l at_ Nv PW b e
def H7{σ ε:Type}(f:σ->Option ε):σ⊕ε->Option ε
 | .inl s=>f s
 | .inr e=>some e
theorem Ub{σ ε:Type}(f:σ->Option ε)(s:σ):H7 f (.inl s)=f s:=rfl
theorem Ah5{σ ε:Type}(f:σ->Option ε)(e:ε):H7 f (.inr e)=some e:=rfl
def HY{σ ε:Type}(step:σ->Option (σ⊕ε)):Nat->σ->Option ε
 | 0,_=>none
 | n+1,s=>(step s).bind (H7 (HY step n))
def C9{σ ε:Type}(step:σ->Option (σ⊕ε))(s:σ):Option ε:=
 open Classical in if h:∃n e,HY step n s=some e then some (Classical.choose (Classical.choose_spec h)) else none
theorem VY{σ ε:Type}{step}:∀{n m:Nat} {s:σ} {e:ε},HY step n s=some e->n<=m->HY step m s=some e
 | 0,_,_,_,h,_=>by simp[HY] at h
 | n+1,0,_,_,_,h=>AQ
 | n+1,m+1,s,e,h,f=>by
   simp only[HY] at h ⊢;cases a:step s with
   | none=>rw[a] at h;simp at h
   | some y=>
     rw[a] at h;cases y with
     | inl g=>exact VY (n:=n) (m:=m) (by simpa [H7] using h) AQ
     | inr b=>simpa [H7] using h
theorem Qg{σ ε:Type}{step}{s:σ}{e:ε}:C9 step s=some e↔∃n,HY step n s=some e:=by
 constructor
 . intro h;unfold C9 at h;split at h
   . rename_i f;have g:=Classical.choose_spec (Classical.choose_spec f);rw[Bf h] at g;exact ⟨_,g⟩
   . cases h
 . rintro ⟨n,i⟩;unfold C9;have f:∃n e,HY step n s=some e:=⟨n,e,i⟩;rw[dif_pos f];have g:=Classical.choose_spec (Classical.choose_spec f);have a:=VY g (Nat.le_max_left _ n);have b:=VY i (Nat.le_max_right (Classical.choose f) n);rw[a] at b;exact b
theorem L0{σ ε:Type}(step:σ->Option (σ⊕ε))(s:σ):C9 step s=(step s).bind (H7 (C9 step)):=by
 apply Option.ext;intro e;rw[Qg];constructor
 . rintro ⟨n,a⟩;cases n with
   | zero=>simp[HY] at a
   | succ n=>
     simp only[HY] at a;cases b:step s with
     | none=>rw[b] at a;simp at a
     | some y=>
       rw[b] at a;cases y with
       | inl f=>exact Qg.2 ⟨n,by simpa [H7] using a⟩
       | inr g=>simpa [H7] using a
 . intro h;cases b:step s with
   | none=>rw[b] at h;simp at h
   | some y=>
     rw[b] at h;cases y with
     | inl f=>
       obtain ⟨n,a⟩:=Qg.1 (show C9 step f=some e by simpa [H7] using h);exact ⟨n+1,by simpa [HY,b,H7] using a⟩
     | inr g=>exact ⟨1,by simpa [HY,b,H7] using h⟩
theorem Awo{σ ε:Type}{step}(I:σ->Prop)(μ:σ->Nat)(Q:ε->Prop)
   (h:∀s,I s->∃y,step s=some y/\match y with | .inl a=>I a/\μ a<μ s | .inr e=>Q e) (s:σ) (h0:I s):∃e,C9 step s=some e/\Q e:=by
 have key:∀n s,I s->μ s<n->∃e,C9 step s=some e/\Q e:=by
   intro n
   induction n with
   | zero=>intro s _ h;omega
   | succ n g=>
     intro s f i;obtain ⟨y,b,h2⟩:=h s f;rw[L0,b];cases y with
     | inl a=>exact g a h2.1 (by have:=h2.2;omega)
     | inr e=>exact ⟨e,rfl,h2⟩
 exact key _ s h0 (Nat.lt_succ_self _)
section
variable {P:AK} {st:St} {x:Code} {k:Kt}
theorem E0{σ ε:Type}{step:σ->Option (σ⊕ε)}{f:σ}{e:ε}(j:C9 step f=some e)(S:σ->St)(m:Wk st (S f))
   (l:∀s n,(step s).bind (H7 (HY step n))=some e->(∀a st',HY step n a=some e->Wk st' (S a)->L P x k n st')->X P x (.lp x n k) (S s)):X P (.loop x) k st:=by
 obtain ⟨n,i⟩:=Qg.1 j;have key:∀n s,HY step n s=some e->L P x k n (S s):=by
   intro n
   induction n with
   | zero=>intro s h;simp[HY] at h
   | succ n o=>intro s h;exact ⟨S s,Wk.refl _,l s n h λ a st' g b=>Bbc b (o a g)⟩
 exact Aty _ (Bbc m (key n f i))
end
def CU{α:Type}(l:List α)(i:Int):Option α:=if 0<=i then l[i.toNat]? else none
theorem KE{α:Type}{l}{i:Int}{x:α}(h:CU l i=some x):(0<=i/\i<(l.length:Int))/\l[i.toNat]?=some x:=by
 unfold CU at h;split at h
 . have:=(Bn.1 h).1;exact ⟨AQ,h⟩
 . cases h
theorem ER{α:Type}{l}{i:Int}{x:α}(h:CU l i=some x):0<=i/\i<(l.length:Int):=(KE h).1
theorem D3{α:Type}{l}{i}{x}(f:α->Ax)(h:CU l i=some x):(l.map f).getD i.toNat []=f x:=by
 simp[List.getD,(KE h).2]
theorem Bdh{α:Type}(l:List α)(i:Nat):CU l (i:Int)=l[i]?:=by
 unfold CU;rw[if_pos AQ];rfl
theorem F5:CS []=[]:=rfl
theorem Hg:El []=[]:=rfl
theorem Hf:Dl []=[]:=rfl
theorem Hh:Dy []=[]:=rfl
theorem XU:Aal []=[]:=rfl
theorem XS:Lh []=[]:=rfl
theorem XT:FF []=[]:=rfl
theorem XR:Gy []=[]:=rfl
theorem Qw(l):(Dl l).length=l.length:=by simp[Dl]
theorem QE(l):(Dy l).length=l.length:=by simp[Dy]
theorem QB(l):(FF l).length=l.length:=by simp[FF]
theorem Qz(l):(Gy l).length=l.length:=by simp[Gy]
theorem At8(l)(x):CS l++[[.int .i64 x]]=CS (l++[x]):=by simp[CS]
theorem At5(l)(x):El l++[[.str x]]=El (l++[x]):=by simp[El]
theorem At4(l)(x):Dl l++[[.bool x]]=Dl (l++[x]):=by simp[Dl]
theorem Ata(l)(x):Dy l++[[.sl (CS x)]]=Dy (l++[x]):=by simp[Dy]
theorem Adv(l)(x):Dl (l++[x])=Dl l++[[.bool x]]:=by simp[Dl]
theorem Ae3(l)(x):Dy (l++[x])=Dy l++[[.sl (CS x)]]:=by simp[Dy]
theorem Ady(l)(x):FF (l++[x])=FF l++[[.str x.name,.int .i64 x.x,.int .i64 x.y]]:=by simp[FF]
theorem Adx(l)(x):Gy (l++[x])=Gy l++[[.str x.name,.bool x.Fq,.int .i64 x.PJ,.int .i64 x.out,.int .i64 x.Eg,.int .i64 x.base]]:=by simp[Gy]
theorem Bai(a b):CS a++CS b=CS (a++b):=by simp[CS]
theorem Bah(l)(i)(x):(CS l).set i [.int .i64 x]=CS (l.set i x):=by simp[CS,BJ]
theorem Bac(l)(i)(x):(Dl l).set i [.bool x]=Dl (l.set i x):=by simp[Dl,BJ]
theorem Baj(l)(i)(x):(Dy l).set i [.sl (CS x)]=Dy (l.set i x):=by simp[Dy,BJ]
theorem Wf(l):(CS l).take l.length=CS l:=by simp[CS,<-List.map_take]
theorem Wb(l):(El l).take l.length=El l:=by simp[El,<-List.map_take]
theorem Wa(l):(Dl l).take l.length=Dl l:=by simp[Dl,<-List.map_take]
theorem Wg(l):(Dy l).take l.length=Dy l:=by simp[Dy,<-List.map_take]
theorem Wh(l):(Aal l).take l.length=Aal l:=by simp[Aal,<-List.map_take]
theorem Wd(l):(Lh l).take l.length=Lh l:=by simp[Lh,<-List.map_take]
theorem We(l):(FF l).take l.length=FF l:=by simp[FF,<-List.map_take]
theorem Wc(l):(Gy l).take l.length=Gy l:=by simp[Gy,<-List.map_take]
theorem At6(l:Aa)(i)(x):(CS (l.set i x)).take l.length=CS (l.set i x):=by rw[BA];simp[CS]
theorem At3(l:Ac)(i)(x):(Dl (l.set i x)).take l.length=Dl (l.set i x):=by rw[BA];simp[Dl]
theorem At9(l:Ab)(i)(x:Aa):(Dy (l.set i x)).take l.length=Dy (l.set i x):=by rw[BA];simp[Dy]
theorem Bk5(l)(a b):((CS l).take b).drop a=CS ((l.take b).drop a):=by simp[CS]
theorem Bk4(l)(a b):((El l).take b).drop a=El ((l.take b).drop a):=by simp[El]
theorem Bk3(l)(a b):((Dl l).take b).drop a=Dl ((l.take b).drop a):=by simp[Dl]
theorem Bgi(n):List.replicate n [Pd.int .i64 0]=CS (List.replicate n 0):=by simp[CS]
theorem Bad(n):List.replicate n [Pd.bool false]=Dl (List.replicate n false):=by simp[Dl]
theorem Bgj(n):List.replicate n [Pd.sl []]=Dy (List.replicate n []):=by simp[Dy,CS]
theorem J4(l):PX 1 (CS l):=by simp[PX,CS]
theorem XO(l):PX 1 (El l):=by simp[PX,El]
theorem Ji(l):PX 1 (Dl l):=by intro e a;simp only[Dl,BS] at a;obtain ⟨x,_,rfl⟩:=a;rfl
theorem Ap5(l):PX 1 (Dy l):=by simp[PX,Dy]
theorem Ai0(l)(i)(x):Dl (l.set i x)=(Dl l).set i [.bool x]:=by simp[Dl,BJ]
theorem Aia(l)(i)(x):Dy (l.set i x)=(Dy l).set i [.sl (CS x)]:=by simp[Dy,BJ]
theorem Aif(l)(i)(x):Aal (l.set i x)=(Aal l).set i [.int .i64 x.word,.int .i64 x.line,.sl (El x.names),.sl (CS x.Bj1)]:=by simp[Aal,BJ]
theorem Ai5(l)(i)(x):FF (l.set i x)=(FF l).set i [.str x.name,.int .i64 x.x,.int .i64 x.y]:=by simp[FF,BJ]
theorem Ai2(l)(i)(x):Gy (l.set i x)=(Gy l).set i [.str x.name,.bool x.Fq,.int .i64 x.PJ,.int .i64 x.out,.int .i64 x.Eg,.int .i64 x.base]:=by simp[Gy,BJ]
theorem Ae0(x):CS [x]=[[.int .i64 x]]:=rfl
theorem Ap1(x):El [x]=[[.str x]]:=rfl
theorem Ap0(x):Dl [x]=[[.bool x]]:=rfl
theorem Gb(x)(l):CS (x::l)=[.int .i64 x]::CS l:=rfl
theorem F9(x)(l):El (x::l)=[.str x]::El l:=rfl
theorem F8(x)(l):Dl (x::l)=[.bool x]::Dl l:=rfl
theorem Gi(x)(l):Dy (x::l)=[.sl (CS x)]::Dy l:=rfl
attribute [go_sem] C0 DJ Qw QE TD GQ QB Qz
attribute [go_sem] List.length_set At8 At5 At4 Ata
attribute [go_sem] Bah Bac Baj
attribute [go_sem] Wf Wb Wa Wg Wh Wd We Wc Bgi Bad Int.toNat_natCast
attribute [go_sem] KK.fit Aka Pd.flat Akb
attribute [go_sem] At6 At3 At9
attribute [go_sem] Bai Bk5 Bk4 Bk3
theorem bE{α β:Type}{a}{f:α->Option β}{r:β}(h:a.bind f=some r):∃x,a=some x/\f x=some r:=by
 cases a with
 | none=>cases h
 | some x=>exact ⟨x,rfl,h⟩
theorem bK{α β γ:Type}{a}{f:α->Option β}{k:β->Option γ}{r:γ}(h:(a.bind f).bind k=some r):∃x,a=some x/\(f x).bind k=some r:=by
 cases a with
 | none=>cases h
 | some x=>exact ⟨x,rfl,h⟩
theorem gE{α:Type}{c}{x:Option α}{r:α}(h:cond c x none=some r):c=true/\x=some r:=by
 cases c with
 | false=>cases h
 | true=>exact ⟨rfl,h⟩
theorem gK{α γ:Type}{c}{x:Option α}{k:α->Option γ}{r:γ}(h:(cond c x none).bind k=some r):c=true/\x.bind k=some r:=by
 cases c with
 | false=>cases h
 | true=>exact ⟨rfl,h⟩
theorem Dk{l}{i}{x}(h:CU l i=some x):(CS l).getD i.toNat []=[.int .i64 x]:=D3 _ h
theorem Al0{l}{i}{x}(h:CU l i=some x):(El l).getD i.toNat []=[.str x]:=D3 _ h
theorem DZ{l}{i}{x}(h:CU l i=some x):(Dl l).getD i.toNat []=[.bool x]:=D3 _ h
theorem I1{l}{i}{x}(h:CU l i=some x):(Dy l).getD i.toNat []=[.sl (CS x)]:=D3 _ h
theorem Av2{l}{i}{x}(h:CU l i=some x):(FF l).getD i.toNat []=[.str x.name,.int .i64 x.x,.int .i64 x.y]:=D3 _ h
theorem Ew{l}{i}{x}(h:CU l i=some x):(Gy l).getD i.toNat []=[.str x.name,.bool x.Fq,.int .i64 x.PJ,.int .i64 x.out,.int .i64 x.Eg,.int .i64 x.base]:=D3 _ h
theorem Ai6(l):∀e∈CS l,∀c∈e,c.flat=true:=by intro e b c a;simp only[CS,BS] at b;obtain ⟨x,_,rfl⟩:=b;simp only[BU,BN,or_false] at a;subst a;rfl
theorem Y1(l):∀e∈Dl l,∀c∈e,c.flat=true:=by intro e b c a;simp only[Dl,BS] at b;obtain ⟨x,_,rfl⟩:=b;simp only[BU,BN,or_false] at a;subst a;rfl
theorem ZE:(type_of% @F5)/\(type_of% @Hg)/\(type_of% @Hf)/\(type_of% @Hh)/\(type_of% @XU)/\(type_of% @XS)/\(type_of% @XT)/\(type_of% @XR)/\(type_of% @Aka)/\(type_of% @Akb)/\(type_of% @Gb)/\(type_of% @F9)/\(type_of% @F8)/\(type_of% @Gi)/\(type_of% @Ae0)/\(type_of% @Ap1)/\(type_of% @Ap0)/\(type_of% @L6)/\(type_of% @GH)/\(type_of% @Adv)/\(type_of% @Ae3)/\(type_of% @Aie)/\(type_of% @QA)/\(type_of% @Ady)/\(type_of% @Adx)/\(type_of% @On)/\(type_of% @XQ)/\(type_of% @Ai0)/\(type_of% @Aia)/\(type_of% @Aif)/\(type_of% @Ai5)/\(type_of% @Ai2)/\(type_of% @C0)/\(type_of% @DJ)/\(type_of% @Qw)/\(type_of% @QE)/\(type_of% @TD)/\(type_of% @GQ)/\(type_of% @QB)/\(type_of% @Qz):=⟨@F5,@Hg,@Hf,@Hh,@XU,@XS,@XT,@XR,@Aka,@Akb,@Gb,@F9,@F8,@Gi,@Ae0,@Ap1,@Ap0,@L6,@GH,@Adv,@Ae3,@Aie,@QA,@Ady,@Adx,@On,@XQ,@Ai0,@Aia,@Aif,@Ai5,@Ai2,@C0,@DJ,@Qw,@QE,@TD,@GQ,@QB,@Qz⟩
theorem ZB:(type_of% @Wf)/\(type_of% @Wb)/\(type_of% @Wa)/\(type_of% @Wg)/\(type_of% @Wh)/\(type_of% @Wd)/\(type_of% @We)/\(type_of% @Wc)/\(type_of% @C0)/\(type_of% @DJ)/\(type_of% @Qw)/\(type_of% @QE)/\(type_of% @TD)/\(type_of% @GQ)/\(type_of% @QB)/\(type_of% @Qz)/\(type_of% @F5)/\(type_of% @Hg)/\(type_of% @Hf)/\(type_of% @Hh)/\(type_of% @XU)/\(type_of% @XS)/\(type_of% @XT)/\(type_of% @XR):=⟨@Wf,@Wb,@Wa,@Wg,@Wh,@Wd,@We,@Wc,@C0,@DJ,@Qw,@QE,@TD,@GQ,@QB,@Qz,@F5,@Hg,@Hf,@Hh,@XU,@XS,@XT,@XR⟩
structure KM where
 state:Int
 E7:Bool
 Eu:Int
 cell:Int
 E9:Int
 seq:Int
 DG:Bool
 LF:Bool
 DY:Int
 Du:Int
 Db:Aa
 wait:Int
 EH:Int
structure Tsk where
 pick:Int
 drop:Int
 state:Int
 CY:Int
 over:Int
structure KI where
 CP:Aa
 CQ:Ab
structure Mc where
 closed:Ac
 Dm:Aa
 CZ:Aa
structure Lm where
 CP:Aa
 CQ:Ab
 closed:Ac
 Dm:Aa
 CZ:Aa
 CN:List KM
 CR:List Tsk
 C6:Bool
structure Ldg where
 closed:Ac
 Dm:Aa
 CZ:Aa
 CR:List Tsk
 CN:List KM
structure O2 where
 cell:Int
 E9:Int
 Qc:Bool
 H0:Bool
structure Wy where
 last:Int
 E9:Int
 serve:Bool
 Iw:Int
 cell:Int
structure UO where
 kind:Int
 CY:Int
 seq:Int
 cell:Int
 flag:Int
structure O1 where
 CP:Aa
 CQ:Ab
 closed:Ac
 Dm:Aa
 CZ:Aa
 CN:List KM
 CR:List Tsk
 C6:Bool
 CV:List O2
 CX:List Wy
 down:List (List UO)
 up:List (List UO)
structure HW where
 kind:Int
 a:Int
 b:Int
 text:Ad
structure Ety where
 at_:Int
 kind:Int
 a:Int
 b:Int
structure Gnt where
 CY:Int
 cell:Int
structure Nc where
 DV:List UO
 CO:List Ety
 Fy:List Gnt
 DN:Aa
 DC:Aa
structure Cm4 where
 kind:Int
 a:Ad
 b:Ad
 n:Int
structure OM where
 kind:Int
 n:Int
structure Dty where
 CY:Int
 kind:Int
 age:Int
structure Fnd where
 kind:Int
 entry:Int
 who:Int
structure DX where
 blocks:List Blk
 next:Ab
 CT:List Sf
 C7:Aa
 cq:Int
 ca:Int
 cd:Int
 cp:Int
 CP:Aa
 CQ:Ab
 closed:Ac
 Dm:Aa
 CZ:Aa
 CN:List KM
 CR:List Tsk
 C6:Bool
 DV:List UO
 CO:List Ety
 Fy:List Gnt
 DN:Aa
 DC:Aa
structure GF where
 blocks:List Blk
 next:Ab
 CT:List Sf
 C7:Aa
 cq:Int
 ca:Int
 cd:Int
 cp:Int
 CP:Aa
 CQ:Ab
 closed:Ac
 Dm:Aa
 CZ:Aa
 CN:List KM
 CR:List Tsk
 C6:Bool
 CV:List O2
 CX:List Wy
 down:List (List UO)
 up:List (List UO)
 G6:List Ety
def Ec(l:List KM):Ag:=l.map λ x=>[.int .i64 x.state,.bool x.E7,.int .i64 x.Eu,.int .i64 x.cell,.int .i64 x.E9,.int .u64 x.seq,.bool x.DG,.bool x.LF,.int .i64 x.DY,.int .i64 x.Du,.sl (CS x.Db),.int .i64 x.wait,.int .i64 x.EH]
theorem Da{l}{i}{x}(h:CU l i=some x):(Ec l).getD i.toNat []=[.int .i64 x.state,.bool x.E7,.int .i64 x.Eu,.int .i64 x.cell,.int .i64 x.E9,.int .u64 x.seq,.bool x.DG,.bool x.LF,.int .i64 x.DY,.int .i64 x.Du,.sl (CS x.Db),.int .i64 x.wait,.int .i64 x.EH]:=D3 _ h
theorem XK:Ec []=[]:=rfl
theorem Adt(x)(l):Ec (x::l)=[.int .i64 x.state,.bool x.E7,.int .i64 x.Eu,.int .i64 x.cell,.int .i64 x.E9,.int .u64 x.seq,.bool x.DG,.bool x.LF,.int .i64 x.DY,.int .i64 x.Du,.sl (CS x.Db),.int .i64 x.wait,.int .i64 x.EH]::Ec l:=rfl
theorem Qv(l):(Ec l).length=l.length:=by simp[Ec]
theorem At0(l)(v0)(v1)(v2)(v3)(v4)(v5)(v6)(v7)(v8)(v9)(v10)(v11)(v12):Ec l++[[.int .i64 v0,.bool v1,.int .i64 v2,.int .i64 v3,.int .i64 v4,.int .u64 v5,.bool v6,.bool v7,.int .i64 v8,.int .i64 v9,.sl (CS v10),.int .i64 v11,.int .i64 v12]]=Ec (l++[⟨v0,v1,v2,v3,v4,v5,v6,v7,v8,v9,v10,v11,v12⟩]):=by simp[Ec]
theorem Ads(l)(x):Ec (l++[x])=Ec l++[[.int .i64 x.state,.bool x.E7,.int .i64 x.Eu,.int .i64 x.cell,.int .i64 x.E9,.int .u64 x.seq,.bool x.DG,.bool x.LF,.int .i64 x.DY,.int .i64 x.Du,.sl (CS x.Db),.int .i64 x.wait,.int .i64 x.EH]]:=by simp[Ec]
theorem Baa(l)(i)(v0)(v1)(v2)(v3)(v4)(v5)(v6)(v7)(v8)(v9)(v10)(v11)(v12):(Ec l).set i [.int .i64 v0,.bool v1,.int .i64 v2,.int .i64 v3,.int .i64 v4,.int .u64 v5,.bool v6,.bool v7,.int .i64 v8,.int .i64 v9,.sl (CS v10),.int .i64 v11,.int .i64 v12]=Ec (l.set i ⟨v0,v1,v2,v3,v4,v5,v6,v7,v8,v9,v10,v11,v12⟩):=by simp[Ec,BJ]
theorem Ahy(l)(i)(x):Ec (l.set i x)=(Ec l).set i [.int .i64 x.state,.bool x.E7,.int .i64 x.Eu,.int .i64 x.cell,.int .i64 x.E9,.int .u64 x.seq,.bool x.DG,.bool x.LF,.int .i64 x.DY,.int .i64 x.Du,.sl (CS x.Db),.int .i64 x.wait,.int .i64 x.EH]:=by simp[Ec,BJ]
theorem V9(l):(Ec l).take l.length=Ec l:=BA (by simp[Ec])
theorem Asy(l:List KM)(i)(x):(Ec (l.set i x)).take l.length=Ec (l.set i x):=BA (by simp[Ec])
theorem Aoy(l):PX 13 (Ec l):=by intro e a;simp only[Ec,BS] at a;obtain ⟨x,_,rfl⟩:=a;rfl
def DE(l:List Tsk):Ag:=l.map λ x=>[.int .i64 x.pick,.int .i64 x.drop,.int .i64 x.state,.int .i64 x.CY,.int .i64 x.over]
theorem EF{l}{i}{x}(h:CU l i=some x):(DE l).getD i.toNat []=[.int .i64 x.pick,.int .i64 x.drop,.int .i64 x.state,.int .i64 x.CY,.int .i64 x.over]:=D3 _ h
theorem Ui:DE []=[]:=rfl
theorem Z9(x)(l):DE (x::l)=[.int .i64 x.pick,.int .i64 x.drop,.int .i64 x.state,.int .i64 x.CY,.int .i64 x.over]::DE l:=rfl
theorem Ol(l):(DE l).length=l.length:=by simp[DE]
theorem Aoz(l)(v0)(v1)(v2)(v3)(v4):DE l++[[.int .i64 v0,.int .i64 v1,.int .i64 v2,.int .i64 v3,.int .i64 v4]]=DE (l++[⟨v0,v1,v2,v3,v4⟩]):=by simp[DE]
theorem Z8(l)(x):DE (l++[x])=DE l++[[.int .i64 x.pick,.int .i64 x.drop,.int .i64 x.state,.int .i64 x.CY,.int .i64 x.over]]:=by simp[DE]
theorem At2(l)(i)(v0)(v1)(v2)(v3)(v4):(DE l).set i [.int .i64 v0,.int .i64 v1,.int .i64 v2,.int .i64 v3,.int .i64 v4]=DE (l.set i ⟨v0,v1,v2,v3,v4⟩):=by simp[DE,BJ]
theorem Adu(l)(i)(x):DE (l.set i x)=(DE l).set i [.int .i64 x.pick,.int .i64 x.drop,.int .i64 x.state,.int .i64 x.CY,.int .i64 x.over]:=by simp[DE,BJ]
theorem Tu(l):(DE l).take l.length=DE l:=BA (by simp[DE])
theorem Ahz(l):PX 5 (DE l):=by intro e a;simp only[DE,BS] at a;obtain ⟨x,_,rfl⟩:=a;rfl
def Ei(l:List O2):Ag:=l.map λ x=>[.int .i64 x.cell,.int .i64 x.E9,.bool x.Qc,.bool x.H0]
theorem TF{l}{i}{x}(h:CU l i=some x):(Ei l).getD i.toNat []=[.int .i64 x.cell,.int .i64 x.E9,.bool x.Qc,.bool x.H0]:=D3 _ h
theorem Uq:Ei []=[]:=rfl
theorem q0(x)(l):Ei (x::l)=[.int .i64 x.cell,.int .i64 x.E9,.bool x.Qc,.bool x.H0]::Ei l:=rfl
theorem Ox(l):(Ei l).length=l.length:=by simp[Ei]
theorem Apd(l)(v0)(v1)(v2)(v3):Ei l++[[.int .i64 v0,.int .i64 v1,.bool v2,.bool v3]]=Ei (l++[⟨v0,v1,v2,v3⟩]):=by simp[Ei]
theorem p9(l)(x):Ei (l++[x])=Ei l++[[.int .i64 x.cell,.int .i64 x.E9,.bool x.Qc,.bool x.H0]]:=by simp[Ei]
theorem Atd(l)(i)(v0)(v1)(v2)(v3):(Ei l).set i [.int .i64 v0,.int .i64 v1,.bool v2,.bool v3]=Ei (l.set i ⟨v0,v1,v2,v3⟩):=by simp[Ei,BJ]
theorem Ae9(l)(i)(x):Ei (l.set i x)=(Ei l).set i [.int .i64 x.cell,.int .i64 x.E9,.bool x.Qc,.bool x.H0]:=by simp[Ei,BJ]
theorem TE(l):(Ei l).take l.length=Ei l:=BA (by simp[Ei])
theorem Apc(l:List O2)(i)(x):(Ei (l.set i x)).take l.length=Ei (l.set i x):=BA (by simp[Ei])
theorem Aig(l):PX 4 (Ei l):=by intro e a;simp only[Ei,BS] at a;obtain ⟨x,_,rfl⟩:=a;rfl
def EB(l:List Wy):Ag:=l.map λ x=>[.int .u64 x.last,.int .i64 x.E9,.bool x.serve,.int .i64 x.Iw,.int .i64 x.cell]
theorem Li{l}{i}{x}(h:CU l i=some x):(EB l).getD i.toNat []=[.int .u64 x.last,.int .i64 x.E9,.bool x.serve,.int .i64 x.Iw,.int .i64 x.cell]:=D3 _ h
theorem Us:EB []=[]:=rfl
theorem s5(x)(l):EB (x::l)=[.int .u64 x.last,.int .i64 x.E9,.bool x.serve,.int .i64 x.Iw,.int .i64 x.cell]::EB l:=rfl
theorem Oz(l):(EB l).length=l.length:=by simp[EB]
theorem Ape(l)(v0)(v1)(v2)(v3)(v4):EB l++[[.int .u64 v0,.int .i64 v1,.bool v2,.int .i64 v3,.int .i64 v4]]=EB (l++[⟨v0,v1,v2,v3,v4⟩]):=by simp[EB]
theorem r9(l)(x):EB (l++[x])=EB l++[[.int .u64 x.last,.int .i64 x.E9,.bool x.serve,.int .i64 x.Iw,.int .i64 x.cell]]:=by simp[EB]
theorem Ate(l)(i)(v0)(v1)(v2)(v3)(v4):(EB l).set i [.int .u64 v0,.int .i64 v1,.bool v2,.int .i64 v3,.int .i64 v4]=EB (l.set i ⟨v0,v1,v2,v3,v4⟩):=by simp[EB,BJ]
theorem Aeb(l)(i)(x):EB (l.set i x)=(EB l).set i [.int .u64 x.last,.int .i64 x.E9,.bool x.serve,.int .i64 x.Iw,.int .i64 x.cell]:=by simp[EB,BJ]
theorem TJ(l):(EB l).take l.length=EB l:=BA (by simp[EB])
theorem Aii(l):PX 5 (EB l):=by intro e a;simp only[EB,BS] at a;obtain ⟨x,_,rfl⟩:=a;rfl
def Et(l:List UO):Ag:=l.map λ x=>[.int .i64 x.kind,.int .i64 x.CY,.int .u64 x.seq,.int .i64 x.cell,.int .i64 x.flag]
theorem Ot{l}{i}{x}(h:CU l i=some x):(Et l).getD i.toNat []=[.int .i64 x.kind,.int .i64 x.CY,.int .u64 x.seq,.int .i64 x.cell,.int .i64 x.flag]:=D3 _ h
theorem Ul:Et []=[]:=rfl
theorem j8(x)(l):Et (x::l)=[.int .i64 x.kind,.int .i64 x.CY,.int .u64 x.seq,.int .i64 x.cell,.int .i64 x.flag]::Et l:=rfl
theorem Oq(l):(Et l).length=l.length:=by simp[Et]
theorem Ap7(l)(v0)(v1)(v2)(v3)(v4):Et l++[[.int .i64 v0,.int .i64 v1,.int .u64 v2,.int .i64 v3,.int .i64 v4]]=Et (l++[⟨v0,v1,v2,v3,v4⟩]):=by simp[Et]
theorem j7(l)(x):Et (l++[x])=Et l++[[.int .i64 x.kind,.int .i64 x.CY,.int .u64 x.seq,.int .i64 x.cell,.int .i64 x.flag]]:=by simp[Et]
theorem Atb(a b):Et a++Et b=Et (a++b):=by simp[Et]
theorem Ae4(l)(i)(x):Et (l.set i x)=(Et l).set i [.int .i64 x.kind,.int .i64 x.CY,.int .u64 x.seq,.int .i64 x.cell,.int .i64 x.flag]:=by simp[Et,BJ]
theorem Tx(l):(Et l).take l.length=Et l:=BA (by simp[Et])
theorem Bgk(l)(a b):((Et l).take b).drop a=Et ((l.take b).drop a):=by simp[Et]
theorem QG(l):PX 5 (Et l):=by intro e a;simp only[Et,BS] at a;obtain ⟨x,_,rfl⟩:=a;rfl
def GI(l:List HW):Ag:=l.map λ x=>[.int .i64 x.kind,.int .i64 x.a,.int .i64 x.b,.str x.text]
theorem TA{l}{i}{x}(h:CU l i=some x):(GI l).getD i.toNat []=[.int .i64 x.kind,.int .i64 x.a,.int .i64 x.b,.str x.text]:=D3 _ h
theorem Un:GI []=[]:=rfl
theorem n8(x)(l):GI (x::l)=[.int .i64 x.kind,.int .i64 x.a,.int .i64 x.b,.str x.text]::GI l:=rfl
theorem Gj(l):(GI l).length=l.length:=by simp[GI]
theorem Ap8(l)(v0)(v1)(v2)(v3):GI l++[[.int .i64 v0,.int .i64 v1,.int .i64 v2,.str v3]]=GI (l++[⟨v0,v1,v2,v3⟩]):=by simp[GI]
theorem n7(l)(x):GI (l++[x])=GI l++[[.int .i64 x.kind,.int .i64 x.a,.int .i64 x.b,.str x.text]]:=by simp[GI]
theorem Ae6(l)(i)(x):GI (l.set i x)=(GI l).set i [.int .i64 x.kind,.int .i64 x.a,.int .i64 x.b,.str x.text]:=by simp[GI,BJ]
theorem Tz(l):(GI l).take l.length=GI l:=BA (by simp[GI])
theorem Aib(l):PX 4 (GI l):=by intro e a;simp only[GI,BS] at a;obtain ⟨x,_,rfl⟩:=a;rfl
def FC(l:List Ety):Ag:=l.map λ x=>[.int .i64 x.at_,.int .i64 x.kind,.int .i64 x.a,.int .i64 x.b]
theorem Uo:FC []=[]:=rfl
theorem o8(x)(l):FC (x::l)=[.int .i64 x.at_,.int .i64 x.kind,.int .i64 x.a,.int .i64 x.b]::FC l:=rfl
theorem Ov(l):(FC l).length=l.length:=by simp[FC]
theorem Ap9(l)(v0)(v1)(v2)(v3):FC l++[[.int .i64 v0,.int .i64 v1,.int .i64 v2,.int .i64 v3]]=FC (l++[⟨v0,v1,v2,v3⟩]):=by simp[FC]
theorem n9(l)(x):FC (l++[x])=FC l++[[.int .i64 x.at_,.int .i64 x.kind,.int .i64 x.a,.int .i64 x.b]]:=by simp[FC]
theorem Atc(a b):FC a++FC b=FC (a++b):=by simp[FC]
theorem Ae7(l)(i)(x):FC (l.set i x)=(FC l).set i [.int .i64 x.at_,.int .i64 x.kind,.int .i64 x.a,.int .i64 x.b]:=by simp[FC,BJ]
theorem TB(l):(FC l).take l.length=FC l:=BA (by simp[FC])
theorem Aic(l):PX 4 (FC l):=by intro e a;simp only[FC,BS] at a;obtain ⟨x,_,rfl⟩:=a;rfl
def Ht(l:List Gnt):Ag:=l.map λ x=>[.int .i64 x.CY,.int .i64 x.cell]
theorem Ap4{l}{i}{x}(h:CU l i=some x):(Ht l).getD i.toNat []=[.int .i64 x.CY,.int .i64 x.cell]:=D3 _ h
theorem Uk:Ht []=[]:=rfl
theorem j6(x)(l):Ht (x::l)=[.int .i64 x.CY,.int .i64 x.cell]::Ht l:=rfl
theorem Oo(l):(Ht l).length=l.length:=by simp[Ht]
theorem Ap3(l)(v0)(v1):Ht l++[[.int .i64 v0,.int .i64 v1]]=Ht (l++[⟨v0,v1⟩]):=by simp[Ht]
theorem b9(l)(x):Ht (l++[x])=Ht l++[[.int .i64 x.CY,.int .i64 x.cell]]:=by simp[Ht]
theorem Ae2(l)(i)(x):Ht (l.set i x)=(Ht l).set i [.int .i64 x.CY,.int .i64 x.cell]:=by simp[Ht,BJ]
theorem Tw(l):(Ht l).take l.length=Ht l:=BA (by simp[Ht])
theorem Ai7(l):PX 2 (Ht l):=by intro e a;simp only[Ht,BS] at a;obtain ⟨x,_,rfl⟩:=a;rfl
def Nh(l:List OM):Ag:=l.map λ x=>[.int .i64 x.kind,.int .i64 x.n]
theorem Ur:Nh []=[]:=rfl
theorem r8(x)(l):Nh (x::l)=[.int .i64 x.kind,.int .i64 x.n]::Nh l:=rfl
theorem Oy(l):(Nh l).length=l.length:=by simp[Nh]
theorem r7(l)(x):Nh (l++[x])=Nh l++[[.int .i64 x.kind,.int .i64 x.n]]:=by simp[Nh]
theorem Aea(l)(i)(x):Nh (l.set i x)=(Nh l).set i [.int .i64 x.kind,.int .i64 x.n]:=by simp[Nh,BJ]
theorem TH(l):(Nh l).take l.length=Nh l:=BA (by simp[Nh])
theorem Aih(l):PX 2 (Nh l):=by intro e a;simp only[Nh,BS] at a;obtain ⟨x,_,rfl⟩:=a;rfl
def Jj(l:List Dty):Ag:=l.map λ x=>[.int .i64 x.CY,.int .i64 x.kind,.int .i64 x.age]
theorem Apb{l}{i}{x}(h:CU l i=some x):(Jj l).getD i.toNat []=[.int .i64 x.CY,.int .i64 x.kind,.int .i64 x.age]:=D3 _ h
theorem Up:Jj []=[]:=rfl
theorem p8(x)(l):Jj (x::l)=[.int .i64 x.CY,.int .i64 x.kind,.int .i64 x.age]::Jj l:=rfl
theorem Ow(l):(Jj l).length=l.length:=by simp[Jj]
theorem Apa(l)(v0)(v1)(v2):Jj l++[[.int .i64 v0,.int .i64 v1,.int .i64 v2]]=Jj (l++[⟨v0,v1,v2⟩]):=by simp[Jj]
theorem o9(l)(x):Jj (l++[x])=Jj l++[[.int .i64 x.CY,.int .i64 x.kind,.int .i64 x.age]]:=by simp[Jj]
theorem Ae8(l)(i)(x):Jj (l.set i x)=(Jj l).set i [.int .i64 x.CY,.int .i64 x.kind,.int .i64 x.age]:=by simp[Jj,BJ]
theorem TC(l):(Jj l).take l.length=Jj l:=BA (by simp[Jj])
theorem Aid(l):PX 3 (Jj l):=by intro e a;simp only[Jj,BS] at a;obtain ⟨x,_,rfl⟩:=a;rfl
def Po(l:List Fnd):Ag:=l.map λ x=>[.int .i64 x.kind,.int .i64 x.entry,.int .i64 x.who]
theorem Um:Po []=[]:=rfl
theorem l0(x)(l):Po (x::l)=[.int .i64 x.kind,.int .i64 x.entry,.int .i64 x.who]::Po l:=rfl
theorem Ou(l):(Po l).length=l.length:=by simp[Po]
theorem j9(l)(x):Po (l++[x])=Po l++[[.int .i64 x.kind,.int .i64 x.entry,.int .i64 x.who]]:=by simp[Po]
theorem Ae5(l)(i)(x):Po (l.set i x)=(Po l).set i [.int .i64 x.kind,.int .i64 x.entry,.int .i64 x.who]:=by simp[Po,BJ]
theorem Ty(l):(Po l).take l.length=Po l:=BA (by simp[Po])
def C8(l:List (List UO)):Ag:=l.map λ x=>[.sl (Et x)]
theorem Eo{l}{i}{x}(h:CU l i=some x):(C8 l).getD i.toNat []=[.sl (Et x)]:=D3 _ h
theorem Pn:C8 []=[]:=rfl
theorem Vp(x)(l):C8 (x::l)=[.sl (Et x)]::C8 l:=rfl
theorem Lg(l):(C8 l).length=l.length:=by simp[C8]
theorem Afy(l)(x):C8 l++[[.sl (Et x)]]=C8 (l++[x]):=by simp[C8]
theorem Vo(l)(x):C8 (l++[x])=C8 l++[[.sl (Et x)]]:=by simp[C8]
theorem Akz(l)(i)(x):(C8 l).set i [.sl (Et x)]=C8 (l.set i x):=by simp[C8,BJ]
theorem XL(l)(i)(x):C8 (l.set i x)=(C8 l).set i [.sl (Et x)]:=by simp[C8,BJ]
theorem PQ(l):(C8 l).take l.length=C8 l:=BA (by simp[C8])
theorem b7(l):PX 1 (C8 l):=by intro e a;simp only[C8,BS] at a;obtain ⟨x,_,rfl⟩:=a;rfl
theorem Afx(l):C8 l++[[.sl []]]=C8 (l++[[]]):=by simp[C8,Et]
theorem Aky(l)(i):(C8 l).set i [.sl []]=C8 (l.set i []):=by simp[C8,Et,BJ]
attribute [go_sem] Afx Aky
attribute [go_sem] Qv At0 Baa V9 Asy Ol Aoz At2 Tu Ox Apd Atd TE Apc Oz Ape Ate TJ
attribute [go_sem] Oq Ap7 Tx Atb Bgk Gj Ap8 Tz Ov Ap9 TB Atc Oo Ap3 Tw
attribute [go_sem] Oy TH Ow Apa TC Ou Ty Lg Afy Akz PQ
theorem ZEu:(type_of% @XK)/\(type_of% @Adt)/\(type_of% @Ads)/\(type_of% @Ahy)/\(type_of% @Qv)/\(type_of% @Ui)/\(type_of% @Z9)/\(type_of% @Z8)/\(type_of% @Adu)/\(type_of% @Ol)/\(type_of% @Uq)/\(type_of% @q0)/\(type_of% @p9)/\(type_of% @Ae9)/\(type_of% @Ox)/\(type_of% @Us)/\(type_of% @s5)/\(type_of% @r9)/\(type_of% @Aeb)/\(type_of% @Oz)/\(type_of% @Ul)/\(type_of% @j8)/\(type_of% @j7)/\(type_of% @Ae4)/\(type_of% @Oq)/\(type_of% @Un)/\(type_of% @n8)/\(type_of% @n7)/\(type_of% @Ae6)/\(type_of% @Gj)/\(type_of% @Uo)/\(type_of% @o8)/\(type_of% @n9)/\(type_of% @Ae7)/\(type_of% @Ov)/\(type_of% @Uk)/\(type_of% @j6)/\(type_of% @b9)/\(type_of% @Ae2)/\(type_of% @Oo)/\(type_of% @Ur)/\(type_of% @r8)/\(type_of% @r7)/\(type_of% @Aea)/\(type_of% @Oy)/\(type_of% @Up)/\(type_of% @p8)/\(type_of% @o9)/\(type_of% @Ae8)/\(type_of% @Ow)/\(type_of% @Um)/\(type_of% @l0)/\(type_of% @j9)/\(type_of% @Ae5)/\(type_of% @Ou)/\(type_of% @Pn)/\(type_of% @Vp)/\(type_of% @Vo)/\(type_of% @XL)/\(type_of% @Lg):=⟨@XK,@Adt,@Ads,@Ahy,@Qv,@Ui,@Z9,@Z8,@Adu,@Ol,@Uq,@q0,@p9,@Ae9,@Ox,@Us,@s5,@r9,@Aeb,@Oz,@Ul,@j8,@j7,@Ae4,@Oq,@Un,@n8,@n7,@Ae6,@Gj,@Uo,@o8,@n9,@Ae7,@Ov,@Uk,@j6,@b9,@Ae2,@Oo,@Ur,@r8,@r7,@Aea,@Oy,@Up,@p8,@o9,@Ae8,@Ow,@Um,@l0,@j9,@Ae5,@Ou,@Pn,@Vp,@Vo,@XL,@Lg⟩
theorem ZBu:(type_of% @V9)/\(type_of% @Qv)/\(type_of% @XK)/\(type_of% @Tu)/\(type_of% @Ol)/\(type_of% @Ui)/\(type_of% @TE)/\(type_of% @Ox)/\(type_of% @Uq)/\(type_of% @TJ)/\(type_of% @Oz)/\(type_of% @Us)/\(type_of% @Tx)/\(type_of% @Oq)/\(type_of% @Ul)/\(type_of% @Tz)/\(type_of% @Gj)/\(type_of% @Un)/\(type_of% @TB)/\(type_of% @Ov)/\(type_of% @Uo)/\(type_of% @Tw)/\(type_of% @Oo)/\(type_of% @Uk)/\(type_of% @TH)/\(type_of% @Oy)/\(type_of% @Ur)/\(type_of% @TC)/\(type_of% @Ow)/\(type_of% @Up)/\(type_of% @Ty)/\(type_of% @Ou)/\(type_of% @Um)/\(type_of% @PQ)/\(type_of% @Lg)/\(type_of% @Pn):=⟨@V9,@Qv,@XK,@Tu,@Ol,@Ui,@TE,@Ox,@Uq,@TJ,@Oz,@Us,@Tx,@Oq,@Ul,@Tz,@Gj,@Un,@TB,@Ov,@Uo,@Tw,@Oo,@Uk,@TH,@Oy,@Ur,@TC,@Ow,@Up,@Ty,@Ou,@Um,@PQ,@Lg,@Pn⟩
def DX.h(a:DX):Hp:=[(1000000,.box [.p (.sl (FF a.blocks)),.p (.sl (Dy a.next)),.p (.sl (Gy a.CT)),.p (.sl (CS a.C7)),.p (.int .i64 a.cq),.p (.int .i64 a.ca),.p (.int .i64 a.cd),.p (.int .i64 a.cp),.p (.sl (CS a.CP)),.p (.sl (Dy a.CQ)),.p (.sl (Dl a.closed)),.p (.sl (CS a.Dm)),.p (.sl (CS a.CZ)),.ref 1000001 0 a.CN.length a.CN.length,.ref 1000002 0 a.CR.length a.CR.length,.p (.bool a.C6),.ref 1000003 0 a.DV.length a.DV.length,.ref 1000004 0 a.CO.length a.CO.length,.ref 1000005 0 a.Fy.length a.Fy.length,.ref 1000006 0 a.DN.length a.DN.length,.ref 1000007 0 a.DC.length a.DC.length]),(1000001,.arr 171 13 (Ec a.CN)),(1000002,.arr 229 5 (DE a.CR)),(1000003,.arr 178 5 (Et a.DV)),(1000004,.arr 242 4 (FC a.CO)),(1000005,.arr 205 2 (Ht a.Fy)),(1000006,.arr 3 1 (CS a.DN)),(1000007,.arr 3 1 (CS a.DC))]
attribute [go_sem] DX.h
def DX.h2(a:DX):Hp:=[(1000000,.box [.p (.sl (FF a.blocks)),.p (.sl (Dy a.next)),.p (.sl (Gy a.CT)),.p (.sl (CS a.C7)),.p (.int .i64 a.cq),.p (.int .i64 a.ca),.p (.int .i64 a.cd),.p (.int .i64 a.cp),.p (.sl (CS a.CP)),.p (.sl (Dy a.CQ)),.p (.sl (Dl a.closed)),.p (.sl (CS a.Dm)),.p (.sl (CS a.CZ)),.ref 1000001 0 a.CN.length a.CN.length,.p (.sl (DE a.CR)),.p (.bool a.C6),.ref 1000002 0 a.DV.length a.DV.length,.ref 1000003 0 a.CO.length a.CO.length,.ref 1000004 0 a.Fy.length a.Fy.length,.ref 1000005 0 a.DN.length a.DN.length,.ref 1000006 0 a.DC.length a.DC.length]),(1000001,.arr 171 13 (Ec a.CN)),(1000002,.arr 178 5 (Et a.DV)),(1000003,.arr 242 4 (FC a.CO)),(1000004,.arr 205 2 (Ht a.Fy)),(1000005,.arr 3 1 (CS a.DN)),(1000006,.arr 3 1 (CS a.DC))]
attribute [go_sem] DX.h2
def GF.h(a:GF):Hp:=[(1000000,.box [.p (.sl (FF a.blocks)),.p (.sl (Dy a.next)),.p (.sl (Gy a.CT)),.p (.sl (CS a.C7)),.p (.int .i64 a.cq),.p (.int .i64 a.ca),.p (.int .i64 a.cd),.p (.int .i64 a.cp),.p (.sl (CS a.CP)),.p (.sl (Dy a.CQ)),.p (.sl (Dl a.closed)),.p (.sl (CS a.Dm)),.p (.sl (CS a.CZ)),.p (.sl (Ec a.CN)),.p (.sl (DE a.CR)),.p (.bool a.C6),.ref 1000001 0 a.CV.length a.CV.length,.ref 1000002 0 a.CX.length a.CX.length,.ref 1000003 0 a.down.length a.down.length,.ref 1000004 0 a.up.length a.up.length,.ref 1000005 0 a.G6.length a.G6.length]),(1000001,.arr 118 4 (Ei a.CV)),(1000002,.arr 121 5 (EB a.CX)),(1000003,.arr 134 1 (C8 a.down)),(1000004,.arr 134 1 (C8 a.up)),(1000005,.arr 242 4 (FC a.G6))]
attribute [go_sem] GF.h
def GF.h2(a:GF):Hp:=[(1000000,.box [.p (.sl (FF a.blocks)),.p (.sl (Dy a.next)),.p (.sl (Gy a.CT)),.p (.sl (CS a.C7)),.p (.int .i64 a.cq),.p (.int .i64 a.ca),.p (.int .i64 a.cd),.p (.int .i64 a.cp),.p (.sl (CS a.CP)),.p (.sl (Dy a.CQ)),.p (.sl (Dl a.closed)),.p (.sl (CS a.Dm)),.p (.sl (CS a.CZ)),.p (.sl (Ec a.CN)),.p (.sl (DE a.CR)),.p (.bool a.C6),.p (.sl (Ei a.CV)),.ref 1000001 0 a.CX.length a.CX.length,.ref 1000002 0 a.down.length a.down.length,.ref 1000003 0 a.up.length a.up.length,.ref 1000004 0 a.G6.length a.G6.length]),(1000001,.arr 121 5 (EB a.CX)),(1000002,.arr 134 1 (C8 a.down)),(1000003,.arr 134 1 (C8 a.up)),(1000004,.arr 242 4 (FC a.G6))]
attribute [go_sem] GF.h2
theorem Ae1(l)(n):(CS l).take n=CS (l.take n):=by simp[CS,CE]
theorem Y2:(∀(l:Aa) (i:Nat) (x:Int),(l.set i x).take l.length=l.set i x)/\(∀(l:Aa) (i j:Nat) (x y:Int),((l.set i x).set j y).take l.length=(l.set i x).set j y)/\(∀(l:Aa) (i j k:Nat) (x y z:Int),(((l.set i x).set j y).set k z).take l.length=((l.set i x).set j y).set k z)/\∀l:Aa,l.take l.length=l:=⟨λ l i x=>BA AT,λ l i j x y=>BA AT,λ l i j k x y z=>BA AT,λ l=>BH⟩
theorem Bag(l)(n):∀e∈(CS l).take n,e.length=1:=λ e h=>by have:=CB h;simp only[CS,BS] at this;obtain ⟨x,_,rfl⟩:=this;rfl
theorem Eh(l)(n):(Dl l).take n=Dl (l.take n):=by simp[Dl,CE]
theorem D0:(∀(l:Ac) (i:Nat) (x:Bool),(l.set i x).take l.length=l.set i x)/\(∀(l:Ac) (i j:Nat) (x y:Bool),((l.set i x).set j y).take l.length=(l.set i x).set j y)/\(∀(l:Ac) (i j k:Nat) (x y z:Bool),(((l.set i x).set j y).set k z).take l.length=((l.set i x).set j y).set k z)/\∀l:Ac,l.take l.length=l:=⟨λ l i x=>BA AT,λ l i j x y=>BA AT,λ l i j k x y z=>BA AT,λ l=>BH⟩
theorem Y0(l)(n):∀e∈(Dl l).take n,e.length=1:=λ e h=>by have:=CB h;simp only[Dl,BS] at this;obtain ⟨x,_,rfl⟩:=this;rfl
theorem Aha{α:Type}{l}{n:Nat}{i:Int}{x:α}(h:CU (l.take n) i=some x):CU l i=some x/\i<(n:Int):=by
 obtain ⟨a,h2⟩:=KE h;rw[BM] at h2;split at h2
 . refine ⟨?_,AQ⟩;unfold CU;rw[if_pos a.1];exact h2
 . cases h2
def dT(l:Ac):Ai:=l.map λ b=> .p (.bool b)
def dI(l:Aa):Ai:=l.map λ n=> .p (.int .i64 n)
theorem Hj(l):(dT l).length=l.length:=by simp[dT]
theorem Hk(l):(dI l).length=l.length:=by simp[dI]
theorem HA(l):E8 (dT l)=[]:=by
 induction l with
 | nil=>rfl
 | cons b r a=>simpa [dT,E8,D.ids] using a
theorem FA(l):E8 (dI l)=[]:=by
 induction l with
 | nil=>rfl
 | cons b r a=>simpa [dI,E8,D.ids] using a
theorem Bou(l)(i:Nat):(dT l)[i]?=(l[i]?).map λ b=> .p (.bool b):=by simp[dT]
theorem Bow(l)(i:Nat):(dI l)[i]?=(l[i]?).map λ b=> .p (.int .i64 b):=by simp[dI]
theorem Bcg{α:Type}(l:List α)(k)(x:α)(h:k<l.length):l.take k++[x]++l.drop (k+1)=l.set k x:=by
 rw[Cr,List.singleton_append,List.set_eq_take_append_cons_drop,if_pos h]
theorem Bot{l}{k}{b}(h:k<l.length):(dT l).take k++[D.p (.bool b)]++(dT l).drop (k+1)=dT (l.set k b):=by
 rw[Bcg _ _ _ (by rw[Hj];exact h)];simp[dT,BJ]
theorem Bov{l}{k}{b}(h:k<l.length):(dI l).take k++[D.p (.int .i64 b)]++(dI l).drop (k+1)=dI (l.set k b):=by
 rw[Bcg _ _ _ (by rw[Hk];exact h)];simp[dI,BJ]
def Acx{α:Type}(n:Nat)(l:List α)(i:Int):Option α:=if l.length=n then CU l i else none
theorem Uc{α:Type}{n}{l:List α}{i:Int}{x:α}(h:Acx n l i=some x):l.length=n/\(0<=i/\i<(n:Int))/\l[i.toNat]?=some x/\i.toNat<n:=by
 unfold Acx at h;split at h
 . rename_i e;obtain ⟨a,h2⟩:=KE h;rw[e] at a;exact ⟨e,a,h2,AQ⟩
 . cases h
theorem Btx:[D.p (.bool false),bD false,bD false,bD false,bD false,bD false,bD false,bD false,bD false,bD false,bD false,bD false,
   bD false,bD false,bD false,bD false,bD false,bD false,bD false,bD false,bD false,bD false,bD false,bD false]=dT (List.replicate 24 false):=rfl
def Ok(l:Ab):Ay:=l.map CS
theorem XJ(l):(Ok l).length=l.length:=by simp[Ok]
theorem Ba8(l)(i)(r):(Ok l).set i (CS r)=Ok (l.set i r):=by simp[Ok,BJ]
theorem Av1(l):(Ok l).map (λ r=>[Pd.sl r])=Dy l:=by simp[Ok,Dy]
theorem Bdg{rows}{i}{x}(h:CU rows i=some x):(Ok rows).getD i.toNat []=CS x:=by simp[Ok,List.getD,(KE h).2]
theorem Ax1{rows}{i}{x}(h:CU rows i=some x):(Ok rows)[i.toNat]?.getD []=CS x:=by simp[Ok,(KE h).2]
theorem Ax0{rows}{i}{x}(h:CU rows i=some x)(hx:i.toNat<(Ok rows).length):(Ok rows)[i.toNat]'hx=CS x:=by
 obtain ⟨a,h2⟩:=Bn.1 (KE h).2;simp[Ok,h2]
theorem Bjh{α:Type}{l}{i:Int}{x:α}(h:CU l i=some x):i.toNat<l.length:=(Bn.1 (KE h).2).1
theorem At7(l)(n):(CS l).take n=CS (l.take n):=by simp[CS]
section
variable {P:AK} {st:St} {x:Code} {k:Kt}
theorem Alj{σ ε γ:Type}{step:σ->Option (σ⊕ε)}{g:σ}{e:ε}(m:C9 step g=some e)(S:σ->γ->St)(i:γ)(p:Wk st (S g i))
   (o:∀s c n,(step s).bind (H7 (HY step n))=some e->(∀a b st',HY step n a=some e->Wk st' (S a b)->L P x k n st')->X P x (.lp x n k) (S s c)):X P (.loop x) k st:=by
 obtain ⟨n,l⟩:=Qg.1 m;have key:∀n s c,HY step n s=some e->L P x k n (S s c):=by
   intro n
   induction n with
   | zero=>intro s c h;simp[HY] at h
   | succ n q=>intro s c h;exact ⟨S s c,Wk.refl _,o s c n h λ a b st' j f=>Bbc f (q a b j)⟩
 exact Aty _ (Bbc p (key n g i l))
end
attribute [go_sem] Hj Hk HA FA Bou Bow Bot Bov Nat.mul_one List.length_replicate
attribute [go_sem] XJ Ba8 Av1 Btx
abbrev KI.c(a:KI):Ai:=[.p (.sl (CS a.CP)),.p (.sl (Dy a.CQ))]
abbrev Nt.c(a:Nt):Ai:=[.p (.sl (FF a.blocks)),.p (.sl (Dy a.next)),.p (.sl (Gy a.CT)),.p (.sl (CS a.C7)),.p (.int .i64 a.cq),.p (.int .i64 a.ca),.p (.int .i64 a.cd),.p (.int .i64 a.cp)]
abbrev Mc.c(a:Mc):Ai:=[.p (.sl (Dl a.closed)),.p (.sl (CS a.Dm)),.p (.sl (CS a.CZ))]
abbrev Lm.c(a:Lm):Ai:=[.p (.sl (CS a.CP)),.p (.sl (Dy a.CQ)),.p (.sl (Dl a.closed)),.p (.sl (CS a.Dm)),.p (.sl (CS a.CZ)),.p (.sl (Ec a.CN)),.p (.sl (DE a.CR)),.p (.bool a.C6)]
abbrev Cm4.c(a:Cm4):Ai:=[.p (.int .i64 a.kind),.p (.str a.a),.p (.str a.b),.p (.int .i64 a.n)]
abbrev Nc.c(a:Nc):Ai:=[.p (.sl (Et a.DV)),.p (.sl (FC a.CO)),.p (.sl (Ht a.Fy)),.p (.sl (CS a.DN)),.p (.sl (CS a.DC))]
abbrev Ldg.c(a:Ldg):Ai:=[.p (.sl (Dl a.closed)),.p (.sl (CS a.Dm)),.p (.sl (CS a.CZ)),.p (.sl (DE a.CR)),.p (.sl (Ec a.CN))]
abbrev KM.c(a:KM):Ai:=[.p (.int .i64 a.state),.p (.bool a.E7),.p (.int .i64 a.Eu),.p (.int .i64 a.cell),.p (.int .i64 a.E9),.p (.int .u64 a.seq),.p (.bool a.DG),.p (.bool a.LF),.p (.int .i64 a.DY),.p (.int .i64 a.Du),.p (.sl (CS a.Db)),.p (.int .i64 a.wait),.p (.int .i64 a.EH)]
abbrev Tsk.c(a:Tsk):Ai:=[.p (.int .i64 a.pick),.p (.int .i64 a.drop),.p (.int .i64 a.state),.p (.int .i64 a.CY),.p (.int .i64 a.over)]
abbrev Sf.c(a:Sf):Ai:=[.p (.str a.name),.p (.bool a.Fq),.p (.int .i64 a.PJ),.p (.int .i64 a.out),.p (.int .i64 a.Eg),.p (.int .i64 a.base)]
abbrev Blk.c(a:Blk):Ai:=[.p (.str a.name),.p (.int .i64 a.x),.p (.int .i64 a.y)]
abbrev O2.c(a:O2):Ai:=[.p (.int .i64 a.cell),.p (.int .i64 a.E9),.p (.bool a.Qc),.p (.bool a.H0)]
abbrev UO.c(a:UO):Ai:=[.p (.int .i64 a.kind),.p (.int .i64 a.CY),.p (.int .u64 a.seq),.p (.int .i64 a.cell),.p (.int .i64 a.flag)]
abbrev Wy.c(a:Wy):Ai:=[.p (.int .u64 a.last),.p (.int .i64 a.E9),.p (.bool a.serve),.p (.int .i64 a.Iw),.p (.int .i64 a.cell)]
abbrev Dty.c(a:Dty):Ai:=[.p (.int .i64 a.CY),.p (.int .i64 a.kind),.p (.int .i64 a.age)]
abbrev HW.c(a:HW):Ai:=[.p (.int .i64 a.kind),.p (.int .i64 a.a),.p (.int .i64 a.b),.p (.str a.text)]
abbrev OM.c(a:OM):Ai:=[.p (.int .i64 a.kind),.p (.int .i64 a.n)]
abbrev Ety.c(a:Ety):Ai:=[.p (.int .i64 a.at_),.p (.int .i64 a.kind),.p (.int .i64 a.a),.p (.int .i64 a.b)]
abbrev Gnt.c(a:Gnt):Ai:=[.p (.int .i64 a.CY),.p (.int .i64 a.cell)]
abbrev Fnd.c(a:Fnd):Ai:=[.p (.int .i64 a.kind),.p (.int .i64 a.entry),.p (.int .i64 a.who)]
abbrev Lp(σ ε:Type):=σ->Option (σ⊕ε)
abbrev Rq(f:AH)(ds:Ai)(h H:Hp)(d0:D):Prop:=C3 prog f ds h λ h d=>h=H/\d=d0
theorem EC{f}{fn}{code}{args}{h}{R:Hp->D->Prop}(a:(prog).funcs[f]?=some fn)(Lc:Enters prog f)(e:X prog code (.fin fn.results.toList (h.map (·.1)) R) ⟨XH 0 args,h,fn.ntmps⟩)(hb:fn.body=some code:=by rfl)(b:Nat.ble args.length fn.ntmps=true:=by rfl):C3 prog f args h R:=Dx a hb Lc (Nat.le_of_ble_eq_true b) e
def pA:Nat->Aq->Al
 | _,[]=>[]
 | i,k::r=>(i,k)::pA (i+1) r
def pB:Aq->Al
 | []=>[]
 | k::r=>(k / 10,k % 10)::pB r
attribute [simp,go_sem] KI.c Nt.c Mc.c Lm.c Cm4.c Nc.c Ldg.c KM.c Tsk.c Sf.c Blk.c O2.c UO.c Wy.c Dty.c HW.c OM.c Ety.c Gnt.c Fnd.c
theorem Nj:dI [0,0]=[iD 0,iD 0]:=rfl
theorem TP:dT [false,false,false,false,false,false,false,false]=[bD false,bD false,bD false,bD false,bD false,bD false,bD false,bD false]:=rfl
theorem GN(n):List.take n (Dl (List.replicate n false))=Dl (List.replicate n false):=BA (by simp[Dl])
attribute [go_sem] GN
def VO(h:Hp):Aq->Hp
 | []=>[]
 | i::r=>match get h i with
   | some o=>(i,o)::VO h r
   | none=>VO h r
theorem Ye(h):∀l,KN h (VO h l)
 | []=>trivial
 | i::r=>by
   unfold VO;split
   . rename_i o a;exact ⟨a,Ye h r⟩
   . exact Ye h r
def Arx(h:Ar):Aq->Ar
 | []=>[]
 | i::r=>match get h i with
   | some o=>(i,o)::Arx h r
   | none=>Arx h r
attribute [go_sem] VO Arx
theorem Wr{st Lt}(h:Le st Lt:=by simp[ZF,ZE,ZEu,DX.h,GF.h,DX.h2,GF.h2,HA,FA,Hj,Hk,TP,Nj,Bv,BN,GN, *]):Wk st Lt:=Wk.forget h
theorem AL{p q:Prop}{st Lt}(f:Wk st Lt->q)(e:p=q:=by (try simp only[go_sem, *])<;>rfl)(h:Le st Lt:=by simp[ZF,ZE,ZEu,DX.h,GF.h,DX.h2,GF.h2,HA,FA,Hj,Hk,TP,Nj,Bv,BN,GN, *]):p:=Eq.mpr e (f (Wk.forget h))
theorem XP{x}{k:Kt}{st:St}{σ ε:Type}{step:σ->Option (σ⊕ε)}{b:σ}{e:ε}{S:σ->St}(f:C9 step b=some e)(I J:Aq)(E:σ->Ar)(H:σ->Hp)
   (g:∀s n,(step s).bind (H7 (HY step n))=some e->(∀a st',HY step n a=some e->Wk st' (S a)->L prog x k n st')->X prog x (.lp x n k) (S s))
   (i:∀q,⟨Arx st.env I++E q,VO st.hp J++H q,st.n⟩=S q:=by intro q;(try simp only[go_sem])<;>rfl) (h:Le st (S b):=by simp[ZF,ZE,ZEu,DX.h,GF.h,DX.h2,GF.h2,HA,FA,Hj,Hk,TP,Nj,Bv,BN,GN, *]):X prog (.loop x) k st:=E0 f S (Wk.forget h) g
theorem HV{a:Prop}{x}{k:Kt}{st:St}{σ ε:Type}{step:σ->Option (σ⊕ε)}{f:σ}{e:ε}{S:σ->St}(j:C9 step f=some e)(I J:Aq)(E:σ->Ar)(H:σ->Hp)
   (l:∀s n,(step s).bind (H7 (HY step n))=some e->(∀b st',HY step n b=some e->Wk st' (S b)->L prog x k n st')->X prog x (.lp x n k) (S s))
   (g:a=(X prog (.loop x) k st):=by (try simp only[go_sem, *])<;>rfl) (i:∀q,⟨Arx st.env I++E q,VO st.hp J++H q,st.n⟩=S q:=by intro q;(try simp only[go_sem])<;>rfl) (h:Le st (S f):=by simp[ZF,ZE,ZEu,DX.h,GF.h,DX.h2,GF.h2,HA,FA,Hj,Hk,TP,Nj,Bv,BN,GN, *]):a:=Eq.mpr g (XP j I J E H l i h)
theorem A{p q:Prop}(h:q)(e:p=q:=by (try simp only[go_sem, *])<;>rfl):p:=Eq.mpr e h
theorem cE{α:Type}{c}{a b:Option α}{r:α}(h:cond c a b=some r):(c=false/\b=some r)∨(c=true/\a=some r):=by
 cases c
 . exact .inl ⟨rfl,h⟩
 . exact .inr ⟨rfl,h⟩
theorem cK{α β:Type}{c}{a b:Option α}{f:α->Option β}{r:β}(h:(cond c a b).bind f=some r):(c=false/\b.bind f=some r)∨(c=true/\a.bind f=some r):=by
 cases c
 . exact .inl ⟨rfl,h⟩
 . exact .inr ⟨rfl,h⟩
theorem Btc{h0}{a}{d}{R:Hp->D->Prop}(h:R8 h0 a d R:=by (try simp only[go_sem, *])<;>first | done | rfl | exact ⟨rfl,rfl⟩ | simp):XI h0 a d R:=DF h
theorem Bta{h0}{a}{d}{R:Hp->D->Prop}(h:R8 h0 a d R:=by (try simp only[go_sem, *])<;>first | done | rfl | exact ⟨.inl rfl,rfl⟩ | exact ⟨.inr (.inl ⟨_,rfl⟩),rfl⟩ | exact ⟨.inr (.inr ⟨_,rfl⟩),rfl⟩ | exact ⟨rfl,rfl⟩ | simp):XI h0 a d R:=DF h
theorem Btb{h0}{a}{d}{R:Hp->D->Prop}(h:Ep h0 R (Er a d):=by (try simp only[go_sem, *])<;>first | done | rfl | exact ⟨rfl,rfl⟩ | simp):XI h0 a d R:=Ds h
theorem eO{p:Prop}(h:p:=by (try simp only[go_sem, *])<;>exact Btc):p:=h
theorem eP{p:Prop}(h:p:=by (try simp only[go_sem, *])<;>exact Btb):p:=h
theorem eS{p:Prop}(h:p:=by (try simp only[go_sem, *])<;>exact Bta):p:=h
theorem zO{α:Type}{v r:α}{p:Prop}(h:some v=some r)(a:v=r->p:=by intro h;subst h;(try simp only[go_sem, *])<;>exact Btc):p:=a (Bf h)
theorem cO{α:Type}{c}{a b:Option α}{r:α}{p:Prop}(h:cond c a b=some r)(f:c=true->a=some r->p)(e:c=false->b=some r->p:=by intro _ h;cases h;exact eO):p:=(cE h).elim (λ h=>e h.1 h.2) λ h=>f h.1 h.2
theorem zP{α:Type}{v r:α}{p:Prop}(h:some v=some r)(a:v=r->p:=by intro h;subst h;(try simp only[go_sem, *])<;>exact Btb):p:=a (Bf h)
theorem cP{α:Type}{c}{a b:Option α}{r:α}{p:Prop}(h:cond c a b=some r)(f:c=true->a=some r->p)(e:c=false->b=some r->p:=by intro _ h;cases h;exact eP):p:=(cE h).elim (λ h=>e h.1 h.2) λ h=>f h.1 h.2
theorem zS{α:Type}{v r:α}{p:Prop}(h:some v=some r)(a:v=r->p:=by intro h;subst h;(try simp only[go_sem, *])<;>exact Bta):p:=a (Bf h)
theorem cS{α:Type}{c}{a b:Option α}{r:α}{p:Prop}(h:cond c a b=some r)(f:c=true->a=some r->p)(e:c=false->b=some r->p:=by intro _ h;cases h;exact eS):p:=(cE h).elim (λ h=>e h.1 h.2) λ h=>f h.1 h.2
theorem iE{α ε:Type}{l}{i:Int}{K:α->Option ε}{r:ε}(h:(CU l i).bind K=some r):∃x,K x=some r/\CU l i=some x/\0<=i/\i<(l.length:Int):=
 have ⟨x,g,h⟩:=bE h;⟨x,h,g,ER g⟩
theorem jE{α ε:Type}{E:List α->Ag}{F:α->Ax}(a:∀{l:List α} {i:Int} {x:α},CU l i=some x->(E l).getD i.toNat []=F x){l}{i:Int}{K:α->Option ε}{r:ε}(h:(CU l i).bind K=some r):∃x,K x=some r/\CU l i=some x/\(0<=i/\i<(l.length:Int))/\(E l).getD i.toNat []=F x:=
 have ⟨x,g,h⟩:=bE h;⟨x,h,g,ER g,a g⟩
theorem iK{α ε:Type}{γ:Type}{k}{l:List α}{i:Int}{K:α->Option ε}{r:γ}(h:((CU l i).bind K).bind k=some r):∃x,(K x).bind k=some r/\CU l i=some x/\0<=i/\i<(l.length:Int):=
 have ⟨x,g,h⟩:=bK h;⟨x,h,g,ER g⟩
theorem jK{α ε:Type}{γ:Type}{k}{E:List α->Ag}{F:α->Ax}(a:∀{l:List α} {i:Int} {x:α},CU l i=some x->(E l).getD i.toNat []=F x){l:List α}{i:Int}{K:α->Option ε}{r:γ}(h:((CU l i).bind K).bind k=some r):∃x,(K x).bind k=some r/\CU l i=some x/\(0<=i/\i<(l.length:Int))/\(E l).getD i.toNat []=F x:=
 have ⟨x,g,h⟩:=bK h;⟨x,h,g,ER g,a g⟩
theorem sl{α:Type}{i}{l:List α}{n}(h:0<=i/\i<(l.length:Int))(e:l.length=n:=by (try simp only[Bv])<;>rfl):0<=i/\i<(n:Int):=e ▸ h
theorem CcD{P}{s}{ops rest}{k}{dst}{st}{h}{T}{f}{ds}{b}{S:Prop}{H}{a}(e:C3 P f ds b λ h d=>h=H/\d=a)
   (g:fresh (dst.getD 0) h H/\O P s ops rest k (({st with hp:=merge T (dst.getD 0) h H}:St).put dst (a.GA (back T (dst.getD 0))))):Cc P s ops rest k dst st h T f ds b S:=Gn e (by rintro i r ⟨rfl,rfl⟩;exact g)
theorem Eb{l P s ops rest k dst st h T f ds j S a}{β ε:Type}{x}{K:β->Option ε}{i:ε}{H:β->Hp}{b:β->D}(p:x.bind K=some i)(n:∀{v},x=some v->C3 P f ds a λ h d=>h=H v/\d=b v)
   (o:∀v,K v=some i->fresh (dst.getD 0) h (H v)/\O P s ops rest k (({st with hp:=merge T (dst.getD 0) h (H v)}:St).put dst ((b v).GA (back T (dst.getD 0))))) (m:l=Cc P s ops rest k dst st h T f ds j S:=by (try simp only[go_sem, *])<;>rfl) (e:a=j:=by first | with_reducible rfl | (simp only[DX.h,DX.h2,GF.h,GF.h2,Bv];done) | rfl):l:=
 have ⟨v,g,h⟩:=bE p;Eq.mpr m (CcD (e ▸ n g) (o v h))
theorem FI{l P s ops rest k dst st h T f ds j S a}{β ε γ:Type}{x}{K:β->Option ε}{k':ε->Option γ}{i:γ}{H:β->Hp}{b:β->D}(p:(x.bind K).bind k'=some i)(n:∀{v},x=some v->C3 P f ds a λ h d=>h=H v/\d=b v)
   (o:∀v,(K v).bind k'=some i->fresh (dst.getD 0) h (H v)/\O P s ops rest k (({st with hp:=merge T (dst.getD 0) h (H v)}:St).put dst ((b v).GA (back T (dst.getD 0))))) (m:l=Cc P s ops rest k dst st h T f ds j S:=by (try simp only[go_sem, *])<;>rfl) (e:a=j:=by first | with_reducible rfl | (simp only[DX.h,DX.h2,GF.h,GF.h2,Bv];done) | rfl):l:=
 have ⟨v,g,h⟩:=bK p;Eq.mpr m (CcD (e ▸ n g) (o v h))
theorem GhD{P}{l}{hR}{r}{k}{e}{dst}{st}{h}{T}{f}{ds}{b}{S:Prop}{H}{a}(g:C3 P f ds b λ h d=>h=H/\d=a)
   (i:fresh (dst.getD 0) h H/\Hd e (merge T (dst.getD 0) h H) hR/\G P l hR r k (({st with hp:=merge T (dst.getD 0) h H}:St).put dst (a.GA (back T (dst.getD 0))))):Gh P l hR r k e dst st h T f ds b S:=Avi g (by rintro j r ⟨rfl,rfl⟩;exact i)
theorem FH{n P l hR r k m dst st h T f ds j S a}{β ε:Type}{x}{K:β->Option ε}{i:ε}{H:β->Hp}{b:β->D}(s:x.bind K=some i)(p:∀{v},x=some v->C3 P f ds a λ h d=>h=H v/\d=b v)
   (q:∀v,K v=some i->fresh (dst.getD 0) h (H v)/\Hd m (merge T (dst.getD 0) h (H v)) hR/\G P l hR r k (({st with hp:=merge T (dst.getD 0) h (H v)}:St).put dst ((b v).GA (back T (dst.getD 0))))) (o:n=Gh P l hR r k m dst st h T f ds j S:=by (try simp only[go_sem, *])<;>rfl) (e:a=j:=by first | with_reducible rfl | (simp only[DX.h,DX.h2,GF.h,GF.h2,Bv];done) | rfl):n:=
 have ⟨v,g,h⟩:=bE s;Eq.mpr o (GhD (e ▸ p g) (q v h))
theorem Sh{n P l hR r k m dst st h T f ds j S a}{β ε γ:Type}{x}{K:β->Option ε}{k':ε->Option γ}{i:γ}{H:β->Hp}{b:β->D}(s:(x.bind K).bind k'=some i)(p:∀{v},x=some v->C3 P f ds a λ h d=>h=H v/\d=b v)
   (q:∀v,(K v).bind k'=some i->fresh (dst.getD 0) h (H v)/\Hd m (merge T (dst.getD 0) h (H v)) hR/\G P l hR r k (({st with hp:=merge T (dst.getD 0) h (H v)}:St).put dst ((b v).GA (back T (dst.getD 0))))) (o:n=Gh P l hR r k m dst st h T f ds j S:=by (try simp only[go_sem, *])<;>rfl) (e:a=j:=by first | with_reducible rfl | (simp only[DX.h,DX.h2,GF.h,GF.h2,Bv];done) | rfl):n:=
 have ⟨v,g,h⟩:=bK s;Eq.mpr o (GhD (e ▸ p g) (q v h))
theorem An{t p q:Prop}[Decidable t](c:decide t=true)(b:q)(a:t->p:=by intro this;(try simp only[Br,Bx,Bw] at*);(repeat' refine And.intro ?_ ?_)<;>first | exact Lr _ _ rfl | omega | exact J4 _ | exact Aoy _ | exact Ahz _ | exact Aib _ | exact QG _ | exact Aic _ | exact b7 _ | exact Ji _ | exact Aig _ | exact Aii _ | exact XO _ | exact Ai7 _ | exact Ap5 _ | exact Aid _ | exact Aih _ | (simp[PX];done)):p/\q:=⟨a (Bg c),b⟩
theorem G7{a:Prop}{t p q:Prop}[Decidable t](c:decide t=true)(f:q)(b:a=(p/\q):=by (try simp only[go_sem, *])<;>rfl)(e:t->p:=by intro this;(try simp only[Br,Bx,Bw] at*);(repeat' refine And.intro ?_ ?_)<;>first | exact Lr _ _ rfl | omega | exact J4 _ | exact Aoy _ | exact Ahz _ | exact Aib _ | exact QG _ | exact Aic _ | exact b7 _ | exact Ji _ | exact Aig _ | exact Aii _ | exact XO _ | exact Ai7 _ | exact Ap5 _ | exact Aid _ | exact Aih _ | (simp[PX];done)):a:=Eq.mpr b (An c f e)
theorem Alk{l}{id}{k}{st}(ids c){p}(h:G prog l (VO st.hp ids) p k st)(hp:pA 0 c=p:=by simp only[pA,Nat.reduceAdd]<;>rfl)(a:RW l p=true:=by kernel_rfl):X prog (.region id l.toArray true) k st:=Yb (VO st.hp ids) mixed a (Ye _ _) h
theorem C4{a:Prop}{l}{id}{k}{st}(ids c){p}(h:G prog l (VO st.hp ids) p k st)(b:a=(X prog (.region id l.toArray true) k st):=by (try simp only[go_sem, *])<;>rfl)(hp:pA 0 c=p:=by simp only[pA,Nat.reduceAdd]<;>rfl)(e:RW l p=true:=by kernel_rfl):a:=Eq.mpr b (Alk ids c h hp e)
theorem Bhr{l}{id}{k}{st}(ids c){p}(h:G prog l (VO st.hp ids) p k st)(hp:pB c=p:=by simp only[pB,Nat.reduceDiv,Nat.reduceMod]<;>rfl)(a:RW l p=true:=by kernel_rfl):X prog (.region id l.toArray true) k st:=Yb (VO st.hp ids) mixed a (Ye _ _) h
theorem Ex{a:Prop}{l}{id}{k}{st}(ids c){p}(h:G prog l (VO st.hp ids) p k st)(b:a=(X prog (.region id l.toArray true) k st):=by (try simp only[go_sem, *])<;>rfl)(hp:pB c=p:=by simp only[pB,Nat.reduceDiv,Nat.reduceMod]<;>rfl)(e:RW l p=true:=by kernel_rfl):a:=Eq.mpr b (Bhr ids c h hp e)
theorem Atz{l}{id}{k}{st}(c){p}(h:G prog l st.hp p k st)(hp:pA 0 c=p:=by simp only[pA,Nat.reduceAdd]<;>rfl)(a:RW l p=true:=by kernel_rfl)(hle:KN st.hp st.hp:=by simp[KN,get]):X prog (.region id l.toArray true) k st:=PU mixed a hle h
theorem Dd{a:Prop}{l}{id}{k}{st}(c){p}(h:G prog l st.hp p k st)(b:a=(X prog (.region id l.toArray true) k st):=by (try simp only[go_sem, *])<;>rfl)(hp:pA 0 c=p:=by simp only[pA,Nat.reduceAdd]<;>rfl)(e:RW l p=true:=by kernel_rfl)(hle:KN st.hp st.hp:=by simp[KN,get]):a:=Eq.mpr b (Atz c h hp e hle)
theorem Bhq{l}{id}{k}{st}(c){p}(h:G prog l st.hp p k st)(hp:pB c=p:=by simp only[pB,Nat.reduceDiv,Nat.reduceMod]<;>rfl)(a:RW l p=true:=by kernel_rfl)(hle:KN st.hp st.hp:=by simp[KN,get]):X prog (.region id l.toArray true) k st:=PU mixed a hle h
theorem Hs{a:Prop}{l}{id}{k}{st}(c){p}(h:G prog l st.hp p k st)(b:a=(X prog (.region id l.toArray true) k st):=by (try simp only[go_sem, *])<;>rfl)(hp:pB c=p:=by simp only[pB,Nat.reduceDiv,Nat.reduceMod]<;>rfl)(e:RW l p=true:=by kernel_rfl)(hle:KN st.hp st.hp:=by simp[KN,get]):a:=Eq.mpr b (Bhq c h hp e hle)
theorem kI{σ ε:Type}{F}{s}{e}(h:(some (Sum.inl s):Option (σ⊕ε)).bind (H7 F)=some e):F s=some e:=h
theorem kR{σ ε:Type}{F}{s e}(h:(some (Sum.inr s):Option (σ⊕ε)).bind (H7 F)=some e):s=e:=Bf h
theorem CcB{P}{ops rest}{k}{dst}{st st'}{h}{T}{e}{ds Yn}{n}{o}{b}{args}{g}{cap}{H}{a}
   (i:C3 P g ds [] λ h d=>h=H/\d=a) (l:O P true ops rest k (st.put o.dst a)) (m:Ez o.op=some (b,args):=by rfl) (j:ev st b= .fn g cap:=by rfl)
   (hb:OI st.hp (args.map (ev st)++cap) ds:=by simp[OI,Bor,ev,get,BA,ZB,ZBu,DX.h,GF.h,DX.h2,GF.h2]<;>rfl) (f:H=[]:=by rfl) (h2:a.flat=true:=by rfl):Cc P true ops rest k dst st' h T e Yn n (Sm P true ops rest k o st):=Bpx m j i hb (by rintro p r ⟨rfl,rfl⟩;exact ⟨f,h2,l⟩)
theorem GhB{P}{l}{hR}{r}{k}{b}{dst}{st st'}{h}{T}{f}{ds Yn}{q}{o}{e}{args}{g}{cap}{H}{a}
   (j:C3 P g ds [] λ h d=>h=H/\d=a) (n:Hd b st.hp hR/\G P l hR r k (st.put o.dst a)) (p:Ez o.op=some (e,args):=by rfl) (m:ev st e= .fn g cap:=by rfl)
   (hb:OI st.hp (args.map (ev st)++cap) ds:=by simp[OI,Bor,ev,get,BA,ZB,ZBu,DX.h,GF.h,DX.h2,GF.h2]<;>rfl) (i:H=[]:=by rfl) (h2:a.flat=true:=by rfl):Gh P l hR r k b dst st' h T f Yn q (Bq P l hR r k b o st):=Bpl p m j hb (by rintro s r ⟨rfl,rfl⟩;exact ⟨i,h2,n⟩)
def T7(a:Ab)(b:Ac)(x:Int):Aa×Ac×Int->Option ((Aa×Ac×Int)⊕(Aa×Ac×Int))
 | (t,o,i)=>Option.bind (CU a x) λ row=>cond (decide (i<((row.length:Nat):Int))) (Option.bind (CU row i) λ y=>Option.bind (CU b y) λ s=>cond s (some (Sum.inl (t,o,i64.wrap (i+1))))
     (Option.bind (CU o y) λ m=>cond m (some (Sum.inl (t,o,i64.wrap (i+1)))) (cond (decide (t.length<1000)) (some (Sum.inl (t++[y],o.set y.toNat true,i64.wrap (i+1)))) none))) (some (Sum.inr (t,o,i)))
def YE(a:Ab)(b:Ac):Aa×Ac->Option ((Aa×Ac)⊕Ac)
 | ([],o)=>some (Sum.inr o)
 | (x::t,o)=>Option.bind (C9 (T7 a b x) (t,o,0)) λ (t',o',i')=>some (Sum.inl (t',o'))
theorem Afg(a0)(a1)(o):YE a0 a1 ([],o)=some (Sum.inr o):=rfl
theorem Ac6(a0)(a1)(x)(t)(o):YE a0 a1 (x::t,o)=Option.bind (C9 (T7 a0 a1 x) (t,o,0)) λ (t',o',i')=>some (Sum.inl (t',o')):=rfl
def MB(a:Ab)(e:Ac)(b:Int):Option Ac:=
 cond (decide (a.length<1000)) (Option.bind (CU e b) λ s=>cond s (some (List.replicate a.length false)) (Option.bind (CU (List.replicate a.length false) b) λ m=>C9 (YE a e) ([b],(List.replicate a.length false).set b.toNat true))) none
def qSo(a:Ab)(b:Ac)(q:Aa×Ac)(p:Aa):St:=
 ⟨[(0,.p (.sl (Dy a))),(1,.p (.sl (Dl b))),(7,.ref 14 0 q.2.length q.2.length),(8,.ref 24 p.length q.1.length (p++q.1).length)],[(14,.arr 4 1 (Dl q.2)),(24,.arr 3 1 (CS (p++q.1)))],69⟩
def qSi(a:Ab)(b:Ac)(x:Int)(q:Aa×Ac×Int)(p:Aa):St:=
 ⟨[(0,.p (.sl (Dy a))),(1,.p (.sl (Dl b))),(7,.ref 14 0 q.2.1.length q.2.1.length),(8,.ref 24 p.length q.1.length (p++q.1).length),(9,.p (.int .i64 x)),(10,.p (.int .i64 q.2.2))],[(14,.arr 4 1 (Dl q.2.1)),(24,.arr 3 1 (CS (p++q.1)))],69⟩
theorem Rd(a0)(a1)(a2)(r)(i:MB a0 a1 a2=some r):
   C3 prog 203 [sD (Dy a0),sD (Dl a1),iD a2] [] λ h d=>h=[]/\d=sD (Dl r):=by
 unfold MB at i;cases V:decide (a0.length<1000)
 . simp only[V,Bl,reduceCtorEq] at i
 simp only[V,Bm] at i;have a3:=Bg V;have b0:0<=((a0.length:Nat):Int):=AQ;have b1:((a0.length:Nat):Int)<=140737488355328:=AQ;have b2:((a0.length:Nat):Int)*1<=140737488355328:=AQ;have b3:((a0.length:Nat):Int)<=((a0.length:Nat):Int):=Int.le_refl _;rcases N:CU a1 a2 with _ | s
 . simp only[N,Option.bind_none,reduceCtorEq] at i
 simp only[N,Bd] at i;have f1:=ER N;have f2:(Dl a1).getD a2.toNat []=[.bool s]:=D3 _ N;refine Dx func203 rfl Axt (by simp[Tryz.f203]) ?_;cases s;rotate_left
 . simp only[Bm] at i;cases i;have tk:List.take a0.length (Dl (List.replicate a0.length false))=Dl (List.replicate a0.length false):=by rw[BA];simp[Dl]
   simp only[go_sem,b0,b1,b2,b3,f1,f2];refine Ds ?_;simp only[go_sem,tk]
 simp only[Bl] at i;rcases Q:CU (List.replicate a0.length false) a2 with _ | m
 . simp only[Q,Option.bind_none,reduceCtorEq] at i
 simp only[Q,Bd] at i;have f3:=ER Q;rw[B1] at f3;have f4:(Dl (List.replicate a0.length false)).getD a2.toNat []=[.bool m]:=D3 _ Q;simp only[go_sem,b0,b1,b2,b3,f1,f2,f3,f4];refine Alj i (qSo a0 a1) [] (Wk.forget (by simp[ZF,qSo,Ae0,F5])) ?_;rintro ⟨t,o⟩ p m1 w ih;unfold qSo;rcases t with _ | ⟨x,t⟩
 . rw[Afg] at w;simp only[Bd,Ah5] at w;cases w;simp only[go_sem];refine Ds ?_;simp only[go_sem]
 . rw[Ac6] at w;rcases g3:C9 (T7 a0 a1 x) (t,o,0) with _ | ⟨t',o',i'⟩
   . simp only[g3,Option.bind_none,reduceCtorEq] at w
   simp only[g3,Bd,Ub] at w;have l1:(0:Int)<((t.length+1:Nat):Int):=AQ;have l2:(1:Int)<=((t.length+1:Nat):Int):=AQ;have l3:(CS (p++x::t)).getD p.length []=[.int .i64 x]:=by simp[CS,List.getD]
   have l4:(((t.length+1:Nat):Int) - 1).toNat=t.length:=AQ;simp only[go_sem,l1,l2,l3,l4,B9,Int.le_refl];refine Alj g3 (qSi a0 a1 x) (p++[x]) (Wk.forget (by simp[ZF,qSi,Cr,Bw])) ?_;rintro ⟨a,g,j⟩ f m2 Tj VZ;unfold qSi;rw[T7.eq_1] at Tj;rcases R:CU a0 x with _ | row
   . simp only[R,Option.bind_none,reduceCtorEq] at Tj
   simp only[R,Bd] at Tj;have B:=ER R;have E:(Dy a0).getD x.toNat []=[.sl (CS row)]:=D3 _ R;cases u:decide (j<((row.length:Nat):Int))
   . simp only[u,Bl] at Tj;simp only[Bd,Ah5] at Tj;obtain ⟨rfl,rfl,rfl⟩:a=t'/\g=o'/\j=i':=by simpa using Tj
     simp only[go_sem,B,E,u];exact ih (a,g) f _ w (Wk.forget (by simp[ZF,qSo]))
   simp only[u,Bm] at Tj;rcases S:CU row j with _ | y
   . simp only[S,Option.bind_none,reduceCtorEq] at Tj
   simp only[S,Bd] at Tj;have H:=ER S;have I:(CS row).getD j.toNat []=[.int .i64 y]:=D3 _ S;rcases T:CU a1 y with _ | sy
   . simp only[T,Option.bind_none,reduceCtorEq] at Tj
   simp only[T,Bd] at Tj;have K:=ER T;have l:(Dl a1).getD y.toNat []=[.bool sy]:=D3 _ T;cases sy;rotate_left
   . simp only[Bm] at Tj;simp only[Bd,Ub] at Tj;simp only[go_sem,B,E,u,H,I,K,l];exact VZ (a,g,i64.wrap (j+1)) f _ Tj (Wk.forget (by simp[ZF,qSi]))
   simp only[Bl] at Tj;rcases U:CU g y with _ | my
   . simp only[U,Option.bind_none,reduceCtorEq] at Tj
   simp only[U,Bd] at Tj;have v:=ER U;have n:(Dl g).getD y.toNat []=[.bool my]:=D3 _ U;cases my;rotate_left
   . simp only[Bm] at Tj;simp only[Bd,Ub] at Tj;simp only[go_sem,B,E,u,H,I,K,l,v,n];exact VZ (a,g,i64.wrap (j+1)) f _ Tj (Wk.forget (by simp[ZF,qSi]))
   simp only[Bl] at Tj;cases W:decide (a.length<1000)
   . simp only[W,Bl,Option.bind_none,reduceCtorEq] at Tj
   simp only[W,Bm] at Tj;simp only[Bd,Ub] at Tj;have a4:=Bg W;have a5:(Dl g)[y.toNat]?.getD []=[.bool false]:=n;rcases f with _ | ⟨z,f⟩
   . simp only[go_sem,B,E,u,H,I,K,l,v,n];exact ⟨⟨Lr _ _ rfl,AQ,AQ⟩,VZ (a++[y],g.set y.toNat true,i64.wrap (j+1)) [] _ Tj (Wk.forget (by simp[ZF,qSi]))⟩
   . simp only[go_sem,B,E,u,H,I,K,l,v,n];refine Bl0 rfl rfl rfl rfl rfl ?_;have e1:(f.length+1)+a.length=(f++a).length+1:=AW;have e2:(CS (z::(f++a))).drop (f.length+1)=CS a:=by simp[CS]
     have e3:(f++a).length+1=(CS (z::(f++a))).length:=by simp[CS]
     simp only[Ave,Bnb,ti3,ev,get,R6,Dn];simp;refine ⟨rfl,by rw[<-e3];simp;omega,by rw[<-e3];simp;try omega,AQ,AQ,?_,?_⟩
     . have Y:CS (z::(f++a))++[[.int .i64 y]]=CS ((z::f)++(a++[y])):=by simp[CS]
       have Z:(CS (z::(f++a))).length+1=((z::f)++(a++[y])).length:=by simp only[C0,Br,Bw,Bx];omega
       simp only[go_sem,Y,Z];exact VZ (a++[y],g.set y.toNat true,i64.wrap (j+1)) (z::f) _ Tj (Wk.forget (by simp[ZF,qSi,Nat.add_assoc]))
     . have Y:CS a++[[.int .i64 y]]=CS (a++[y]):=by simp[CS]
       have Z:(CS a).length+1=(a++[y]).length:=by simp[CS]
       simp only[go_sem,e2,Y,Z];refine VZ (a++[y],g.set y.toNat true,i64.wrap (j+1)) [] _ Tj ?_;refine Wk.trans (b:=⟨[(0,.p (.sl (Dy a0))),(1,.p (.sl (Dl a1))),(7,.ref 14 0 g.length g.length),(8,.ref 67 0 (a++[y]).length (CS (a++[y])).length),(9,.p (.int .i64 x)),(10,.p (.int .i64 (i64.wrap (j+1))))],[(14,.arr 4 1 (Dl (g.set y.toNat true))),(67,.arr 3 1 (CS (a++[y])))],69⟩) (Wk.forget (by simp[ZF,C0])) ?_;refine (Wk.Ani (t:=8) (q:=67) (k:=(a++[y]).length) (sz:=1) (e:=3) (es:=CS (a++[y])) 24 rfl rfl (by simp[CS]) rfl).trans ?_;have e6:List.take (a.length+1) (a++[y])=a++[y]:=by rw[BA];simp
       exact (Wk.forget (by simp[ZF,qSi,At7,BH,e6]))
def Q2(e:Mc)(f:Int):Aa×Int->Option ((Aa×Int)⊕((Aa×Int)))
 | (b,a)=>cond (a<(e.CZ.length:Int)) ((CU e.CZ a).bind λ Lq=>cond (Lq=f) (some (.inl (b,(i64.wrap (a+1))))) (cond (b.length+1<10000000) (some (.inl ((b++[Lq]),(i64.wrap (a+1))))) none)) (some (.inr (b,a)))
def Jw(a:Mc)(b:Int):Option (Mc):=
 cond (a.closed.length<10000000) (cond (a.Dm.length<10000000) ((C9 (Q2 a b) ([],0)).bind (λ (MZ,v20)=>some (⟨a.closed,a.Dm,MZ⟩:Mc))) none) none
theorem K5{b f r}(a:Jw b f=some r):
   Rq 118 [.agg b.c,iD f] [] [(0,.arr 4 1 (Dl r.closed)),(1,.arr 3 1 (CS r.Dm)),(2,.arr 3 1 (CS r.CZ))] (.agg [rD 0 r.closed,rD 1 r.Dm,rD 2 r.CZ]):=by
 refine EC func118 Azt ?_;unfold Jw at a;refine Ex [2] [0,10,30,40,71,22,52,60,83] ?_;obtain ⟨k,a⟩:=gE a;refine G7 k ?_;obtain ⟨l,a⟩:=gE a;refine G7 l ?_;obtain ⟨m,i,a⟩:=bE a;refine A ?_;refine E0 i (λ q=>⟨[(1,iD f),(2,.ptr 2 0),(4,.ptr 4 0),(5,.ptr 5 0),(6,iD q.2)],[(2,.box b.c),(4,.box [.cl [],.cl [],.cl []]),(5,.box [rD 9 b.closed,rD 12 b.Dm,rD 36 q.1]),(9,.arr 4 1 (Dl b.closed)),(12,.arr 3 1 (CS b.Dm)),(36,.arr 3 1 (CS q.1))],39⟩) ((Wk.EP (id:=5) (j:=2) (q:=36) (sz:=1) 3 rfl rfl rfl AV).trans Wr) ?_;rintro ⟨n,o⟩ _ Ip e;rw[Q2.eq_1] at Ip;obtain ⟨_,Ip⟩ | ⟨_,Ip⟩:=cK Ip
 . cases kR Ip;exact zO a
 obtain ⟨_,Ip,_⟩:=jK Dk Ip;obtain ⟨_,Ip⟩ | ⟨_,Ip⟩:=cK Ip
 . refine C4 [2,5] [0,0,0,0,0,0,0,1,2,0,3] ?_;obtain ⟨g,Ip⟩:=gK Ip;refine G7 g ?_;exact AL (e _ _ (kI Ip))
 exact AL (e _ _ (kI Ip))
def Kg(e:Mc)(b:Int)(f:Int):Option (Mc):=
 (Jw e b).bind λ a=>(CU a.closed b).bind λ g=>cond g (some a) ((CU a.Dm b).bind λ i=>some (⟨(a.closed.set b.toNat true),(a.Dm.set b.toNat f),a.CZ⟩:Mc))
theorem Q0{b e f r}(a:Kg b e f=some r):
   Rq 139 [.agg b.c,iD e,iD f] [] [] (.agg r.c):=by
 refine EC func139 Az9 ?_;unfold Kg at a;refine Eb a K5 λ _ a=>?_;obtain ⟨_,a,_⟩:=jE DZ a;obtain ⟨_,a⟩ | ⟨_,a⟩:=cE a
 . refine C4 [3,20009] [0,0,0,0,0,0,0,2,2,0,3] ?_;obtain ⟨_,a,_⟩:=jE Dk a;exact zP a
 exact zP a
def NV(e:Mc)(a:Int):Option (Mc):=
 (Jw e a).bind λ b=>(CU b.closed a).bind λ f=>(CU b.Dm a).bind λ g=>some (⟨(b.closed.set a.toNat false),(b.Dm.set a.toNat (-1)),b.CZ⟩:Mc)
theorem Ajg{b e r}(a:NV b e=some r):
   Rq 205 [.agg b.c,iD e] [] [] (.agg r.c):=by
 refine EC func205 Axr ?_;unfold NV at a;refine Eb a K5 λ _ a=>?_;refine C4 [2,20007] [0,0,0,0,0,0,2,2,0,3] ?_;obtain ⟨_,a,_⟩:=jE DZ a;obtain ⟨_,a,_⟩:=jE Dk a;exact zP a
def Zz(e:Mc):Ac×Int->Option ((Ac×Int)⊕((Ac×Int)))
 | (b,a)=>cond (a<(e.CZ.length:Int)) ((CU e.CZ a).bind λ Jr=>(CU b Jr).bind λ JD=>some (.inl ((b.set Jr.toNat true),(i64.wrap (a+1))))) (some (.inr (b,a)))
def EV(a:Mc):Option Ac:=
 cond (a.closed.length<10000000) ((C9 (Zz a) (a.closed,0)).bind (λ (v20,v21)=>some v20)) none
theorem FG{f r}(a:EV f=some r):
   Rq 163 [.agg f.c] [] [(0,.arr 4 1 (Dl r))] (rD 0 r):=by
 refine EC func163 Ays ?_;unfold EV at a;obtain ⟨g,a⟩:=gE a;refine G7 g ?_;obtain ⟨i,b,a⟩:=bE a;refine HV b [1] [1] (λ q=>[(3,rD 7 q.1),(4,iD q.2)]) (λ q=>[(7,.arr 4 1 (Dl q.1))]) ?_;rintro ⟨j,k⟩ _ Hr e;rw[Zz.eq_1] at Hr;obtain ⟨_,Hr⟩ | ⟨_,Hr⟩:=cK Hr
 . cases kR Hr;exact zO a
 obtain ⟨_,Hr,_⟩:=jK Dk Hr;obtain ⟨_,Hr,_⟩:=jK DZ Hr;exact AL (e _ _ (kI Hr))
def Zw(b:Nt)(g:Mc)(j:Ac)(i:Int)(JD:Ac):Bool×Int×Bool->Option ((Bool×Int×Bool)⊕((Bool×Int×Bool)))
 | (a,Mu,O6)=>cond (Mu<(b.blocks.length:Int)) ((CU j Mu).bind λ Wz=>cond Wz (some (.inl (a,(i64.wrap (Mu+1)),O6))) (cond O6 (cond a (some (.inl (true,(i64.wrap (Mu+1)),true))) ((MB b.next (g.closed.take b.blocks.length) Mu).bind λ e=>(CU e i).bind λ f=>some (.inl (f,(i64.wrap (Mu+1)),true)))) ((CU JD Mu).bind λ Mr=>cond a (some (.inl (true,(i64.wrap (Mu+1)),Mr))) ((MB b.next (g.closed.take b.blocks.length) Mu).bind λ NB=>(CU NB i).bind λ UR=>some (.inl (UR,(i64.wrap (Mu+1)),Mr)))))) (some (.inr (a,Mu,O6)))
def Zv(e:Nt)(f:Mc)(g:Ac):Ac×Int->Option ((Ac×Int)⊕((Ac×Int)))
 | (b,a)=>cond (a<(e.blocks.length:Int)) ((MB e.next (f.closed.take e.blocks.length) a).bind λ JD=>(C9 (Zw e f g a JD) (false,0,false)).bind (λ (Yv,v64,Zl)=>cond Zl ((CU b a).bind λ i=>some (.inl ((b.set a.toNat Yv),(i64.wrap (a+1))))) ((CU b a).bind λ RN=>some (.inl ((b.set a.toNat false),(i64.wrap (a+1))))))) (some (.inr (b,a)))
def LN(a:Nt)(b:Mc):Option Ac:=
 cond (0<=0/\0<=(a.blocks.length:Int)/\(a.blocks.length:Int)<=(b.closed.length:Int)) ((EV b).bind λ e=>cond (a.blocks.length<10000000) ((C9 (Zv a b e) ((List.replicate a.blocks.length false),0)).bind (λ (v75,v76)=>some v75)) none) none
theorem WW{b e r}(a:LN b e=some r):
   Rq 225 [.agg b.c,.agg e.c] [] [] (sD (Dl r)):=by
 refine EC func225 Axf ?_;unfold LN at a;refine Hs [0,20,30,40,50,60,70,12,80,90] ?_;obtain ⟨l,a⟩:=gE a;have _:=Bg l;try simp only[go_sem, *,Ji e.closed]
 refine FH a FG λ _ a=>?_;obtain ⟨m,a⟩:=gE a;refine G7 m ?_;obtain ⟨n,f,a⟩:=bE a;refine HV f [2,5,6] [2,10014] (λ q=>[(7,rD 24 q.1),(8,iD q.2)]) (λ q=>[(24,.arr 4 1 (Dl q.1))]) ?_;rintro ⟨t,s⟩ _ Fs Anu;rw[Zv.eq_1] at Fs;obtain ⟨_,Fs⟩ | ⟨_,Fs⟩:=cK Fs
 . cases kR Fs;exact zP a
 obtain ⟨_,g,Fs⟩:=bK Fs;refine A ?_;refine CcD (Rd b.next (e.closed.take b.blocks.length) s _ g) ?_;obtain ⟨o,i,Fs⟩:=bK Fs;refine HV i [2,5,6,7,8,11] [2,24,10014] (λ q=>[(9,bD q.2.2),(10,bD q.1),(12,iD q.2.1)]) (λ _=>[]) ?_;rintro ⟨p,Mu,O6⟩ _ Hy Asg;rw[Zw.eq_1] at Hy;obtain ⟨_,Hy⟩ | ⟨_,Hy⟩:=cK Hy
 . cases kR Hy;obtain ⟨_,Fs⟩ | ⟨_,Fs⟩:=cK Fs
   . obtain ⟨_,Fs,_⟩:=jK DZ Fs;exact AL (Anu _ _ (kI Fs))
   obtain ⟨_,Fs,_⟩:=jK DZ Fs;exact AL (Anu _ _ (kI Fs))
 obtain ⟨_,Hy,_⟩:=jK DZ Hy;obtain ⟨_,Hy⟩ | ⟨_,Hy⟩:=cK Hy
 . obtain ⟨_,Hy⟩ | ⟨_,Hy⟩:=cK Hy
   . obtain ⟨_,Hy,_⟩:=jK DZ Hy;obtain ⟨_,Hy⟩ | ⟨_,Hy⟩:=cK Hy
     . obtain ⟨_,j,Hy⟩:=bK Hy;refine A ?_;refine CcD (Rd b.next (e.closed.take b.blocks.length) Mu _ j) ?_;obtain ⟨_,Hy,_⟩:=jK DZ Hy;exact AL (Asg _ _ (kI Hy))
     exact AL (Asg _ _ (kI Hy))
   obtain ⟨_,Hy⟩ | ⟨_,Hy⟩:=cK Hy
   . obtain ⟨_,k,Hy⟩:=bK Hy;refine A ?_;refine CcD (Rd b.next (e.closed.take b.blocks.length) Mu _ k) ?_;obtain ⟨_,Hy,_⟩:=jK DZ Hy;exact AL (Asg _ _ (kI Hy))
   exact AL (Asg _ _ (kI Hy))
 exact AL (Asg _ _ (kI Hy))
def WK(b:Aa)(e:Int):Int->Option ((Int)⊕(Int⊕Bool))
 | a=>cond (a<(b.length:Int)) ((CU b a).bind λ f=>cond (f=e) (some (.inr (.inr true))) (some (.inl (i64.wrap (a+1))))) (some (.inr (.inl a)))
def HE(b:Aa)(e:Int):Option (Bool):=
 (C9 (WK b e) 0).bind (λ | .inl FP=>some false | .inr (a)=>some a)
theorem Mi{e f r}(a:HE e f=some r):
   Rq 18 [sD (CS e),iD f] [] [] (bD r):=by
 refine EC func18 Adq ?_;unfold HE at a;obtain ⟨i,g,a⟩:=bE a;refine HV g [0,1] [] (λ q=>[(5,iD q)]) (λ _=>[]) ?_;rintro j _ EJ b;rw[WK.eq_1] at EJ;obtain ⟨_,EJ⟩ | ⟨_,EJ⟩:=cK EJ
 . cases kR EJ;exact zP a
 obtain ⟨_,EJ,_⟩:=jK Dk EJ;obtain ⟨_,EJ⟩ | ⟨_,EJ⟩:=cK EJ
 . exact AL (b _ _ (kI EJ))
 cases kR EJ;exact zP a
def Zy(a:Nt)(e:Ac)(b:Int):Int->Option ((Int)⊕(Int⊕Bool))
 | Ls=>cond (Ls<(a.CT.length:Int)) ((CU e Ls).bind λ LG=>cond LG ((CU a.CT Ls).bind λ R3=>cond (R3.PJ=b) (some (.inr (.inr false))) (cond (R3.out=b) (some (.inr (.inr false))) (some (.inl (i64.wrap (Ls+1)))))) (some (.inl (i64.wrap (Ls+1))))) (some (.inr (.inl Ls)))
def Zx(a:Ab)(b:Int):Int->Option ((Int)⊕(Int⊕Bool))
 | Jq=>cond (Jq<(a.length:Int)) ((CU a Jq).bind λ Mr=>(HE Mr b).bind λ TZ=>cond TZ (some (.inr (.inr false))) (some (.inl (i64.wrap (Jq+1))))) (some (.inr (.inl Jq)))
def NX(i:Nt)(f:Mc)(g:KI)(j:Ab)(k:Ac):Option (Bool):=
 cond ((f.CZ.length:Int)=0) (some false) ((CU f.CZ 0).bind λ a=>(CU g.CP a).bind λ n=>cond (n=(-1)) ((CU g.CQ a).bind λ GS=>cond (0<(GS.length:Int)) (some false) ((C9 (Zx j a) 0).bind (λ | .inl l=>(C9 (Zy i k a) 0).bind (λ | .inl m=>some true | .inr (b)=>some b) | .inr (e)=>some e))) (some false))
theorem Aji{g b i j k r}(a:NX g b i j k=some r):
   Rq 137 [.agg g.c,.agg b.c,.agg i.c,sD (Dy j),sD (Dl k)] [] [] (bD r):=by
 refine EC func137 Azb ?_;unfold NX at a;obtain ⟨_,a⟩ | ⟨_,a⟩:=cE a
 . obtain ⟨_,a,n,_⟩:=iE a;have _:(CS b.CZ).getD 0 []=_:=Dk n;obtain ⟨_,a,_⟩:=jE Dk a;refine cP a λ _ a=>?_;obtain ⟨_,a,_⟩:=jE I1 a;obtain ⟨_,a⟩ | ⟨_,a⟩:=cE a
   . obtain ⟨l,e,a⟩:=bE a;refine HV e [3,4,5,11] [5] (λ q=>[(12,iD q)]) (λ _=>[]) ?_;rintro Jq _ Na Bnu;rw[Zx.eq_1] at Na;obtain ⟨_,Na⟩ | ⟨_,Na⟩:=cK Na
     . cases kR Na;obtain ⟨m,f,a⟩:=bE a;refine HV f [4,5,11] [5] (λ q=>[(13,iD q)]) (λ _=>[]) ?_;rintro Ls _ ES Afo;rw[Zy.eq_1] at ES;obtain ⟨_,ES⟩ | ⟨_,ES⟩:=cK ES
       . cases kR ES;exact zP a
       obtain ⟨_,ES,_⟩:=jK DZ ES;obtain ⟨_,ES⟩ | ⟨_,ES⟩:=cK ES
       . exact AL (Afo _ _ (kI ES))
       obtain ⟨_,ES,_⟩:=jK Ew ES;obtain ⟨_,ES⟩ | ⟨_,ES⟩:=cK ES
       . obtain ⟨_,ES⟩ | ⟨_,ES⟩:=cK ES
         . exact AL (Afo _ _ (kI ES))
         cases kR ES;exact zP a
       cases kR ES;exact zP a
     obtain ⟨_,Na,_⟩:=jK I1 Na;refine FI Na Mi λ _ Na=>?_;obtain ⟨_,Na⟩ | ⟨_,Na⟩:=cK Na
     . exact AL (Bnu _ _ (kI Na))
     cases kR Na;exact zP a
   exact zP a
 exact zP a
theorem Ba7(l)(r):Ok l++[CS r]=Ok (l++[r]):=by simp[Ok]
theorem Bgf:Ok []=[]:=rfl
def Q5(e:KI):Ab×Int->Option ((Ab×Int)⊕((Ab×Int)))
 | (b,a)=>cond (a<(e.CQ.length:Int)) ((CU e.CQ a).bind λ Jp=>cond (Jp.length<10000000) (cond (b.length<10000000) (some (.inl ((b++[Jp]),(i64.wrap (a+1))))) none) none) (some (.inr (b,a)))
def H5(a:KI):Option (KI):=
 cond (a.CP.length<10000000) ((C9 (Q5 a) ([],0)).bind (λ (v21,Mu)=>some (⟨a.CP,v21⟩:KI))) none
theorem AZ{p:Prop}(h:p:=by simp[ZF,ZE,ZEu,DX.h,GF.h,DX.h2,GF.h2,HA,FA,Hj,Hk,Bv,Ba7,Bgf,XJ, *]):p:=h
theorem W3{a r}(b:H5 a=some r):
   C3 prog 117 [.agg a.c] [] λ h d=>∃m:Nat,h=[(0,.arr 3 1 (CS r.CP)),(1,.Fc 23 3 1 m (Ok r.CQ) none)]/\d= .agg [rD 0 r.CP,.E3 1 r.CQ.length]:=by
 refine EC func117 Azu ?_;unfold H5 at b;obtain ⟨k,b⟩:=gE b;refine G7 k ?_;obtain ⟨l,g,b⟩:=bE b;refine A ?_;refine Alj g (λ (q:Ab×Int) (c:Nat)=>⟨[(1,.ptr 1 0),(2,.ptr 2 0),(3,.ptr 3 0),(4,.p (.int .i64 q.2))],[(1,.box [.p (.sl (CS a.CP)),.p (.sl (Dy a.CQ))]),(2,.box [.cl [],.cl []]),(3,.box [.ref 7 0 a.CP.length a.CP.length,.E3 800025 q.1.length]),(7,.arr 3 1 (CS a.CP)),(800025,.Fc 23 3 1 c (Ok q.1) none)],28⟩) 0 ((Wk.Bj4 (id:=3) (j:=1) (q:=800025) (sz:=1) 23 3 rfl rfl rfl AV).trans ((Wk.forget AZ))) ?_;rintro ⟨n,o⟩ i _ EU MK;rw[Q5.eq_1] at EU;obtain ⟨_,EU⟩ | ⟨_,EU⟩:=cK EU
 . cases kR EU;exact zO b
 refine C4 [1,3] [0,0,0,0,0,0,0,2,2,2,0,3] ?_;obtain ⟨Jp,EU,_⟩:=jK I1 EU;obtain ⟨e,EU⟩:=gK EU;refine G7 e ?_;obtain ⟨f,EU⟩:=gK EU;refine G7 f ?_;refine A ?_;exact MK ((n++[Jp]),(i64.wrap (o+1))) (i+1+1) _ (kI EU) ((Wk.forget AZ))
theorem Nq{a r}(e:H5 a=some r):
   Rq 117 [.agg a.c] [] [(0,.arr 3 1 (CS r.CP)),(1,.arr 23 1 (Dy r.CQ))] (.agg [rD 0 r.CP,rD 1 r.CQ]):=by
 have b:=W3 e;rw[<-XJ r.CQ] at b;have h2:=C3.Bj2 b (Av1 r.CQ)
 simpa only[XJ,rD] using h2
def SN(b:KI)(e:Int)(Lq:Int):Ac×Int->Option ((Ac×Int)⊕((Ac×Int)⊕Bool))
 | (a,Mu)=>(CU b.CQ e).bind λ ON=>cond (Mu<(ON.length:Int)) ((CU ON Mu).bind λ KP=>cond (KP<0) (some (.inr (.inr false))) (cond (8<=KP) (some (.inr (.inr false))) ((Acx 8 a KP).bind λ Wz=>cond Wz (some (.inr (.inr false))) (cond (KP=Lq) (some (.inr (.inr false))) (some (.inl ((a.set KP.toNat true),(i64.wrap (Mu+1))))))))) (some (.inr (.inl (a,Mu))))
def SM(b:KI):Ac×Int->Option ((Ac×Int)⊕((Ac×Int)⊕Bool))
 | (g,a)=>cond (a<(b.CP.length:Int)) ((CU b.CP a).bind λ Lq=>cond (Lq<(-1)) (some (.inr (.inr false))) (cond (8<=Lq) (some (.inr (.inr false))) ((C9 (SN b a Lq) (g,0)).bind (λ | .inl (f,i)=>some (.inl (f,(i64.wrap (a+1)))) | .inr (e)=>some (.inr (.inr (e))))))) (some (.inr (.inl (g,a))))
def Kh(a:KI):Option (Bool):=
 cond (48<(a.CP.length:Int)) (some false) (cond ((a.CP.length:Int)=(a.CQ.length:Int)) ((C9 (SM a) ((List.replicate 8 false),0)).bind (λ | .inl (e,f)=>some true | .inr (b)=>some b)) (some false))
theorem Q3{i r}(a:Kh i=some r):
   Rq 194 [.agg i.c] [] [] (bD r):=by
 refine EC func194 Axx ?_;unfold Kh at a;obtain ⟨_,a⟩ | ⟨_,a⟩:=cE a
 . refine cP a λ _ a=>?_;obtain ⟨k,b,a⟩:=bE a;refine HV b [1,3] [1] (λ q=>[(4,iD q.2)]) (λ q=>[(3,.box (dT q.1))]) ?_;rintro ⟨n,o⟩ _ Ip g;rw[SM.eq_1] at Ip;obtain ⟨_,Ip⟩ | ⟨_,Ip⟩:=cK Ip
   . cases kR Ip;exact zP a
   obtain ⟨_,Ip,_⟩:=jK Dk Ip;obtain ⟨_,Ip⟩ | ⟨_,Ip⟩:=cK Ip
   . obtain ⟨_,Ip⟩ | ⟨_,Ip⟩:=cK Ip
     . obtain ⟨l,e,Ip⟩:=bK Ip;refine HV e [1,3,4] [1] (λ q=>[(5,iD q.2)]) (λ q=>[(3,.box (dT q.1))]) ?_;rintro ⟨m,Mu⟩ _ Hb Bjd;rw[SN.eq_1] at Hb;obtain ⟨_,Hb,_⟩:=jK I1 Hb;obtain ⟨_,Hb⟩ | ⟨_,Hb⟩:=cK Hb
       . cases kR Hb;(try dsimp only at Ip);refine A ?_;exact AL (g _ _ (kI Ip))
       obtain ⟨KP,Hb,_⟩:=jK Dk Hb;obtain ⟨_,Hb⟩ | ⟨_,Hb⟩:=cK Hb
       . obtain ⟨_,Hb⟩ | ⟨_,Hb⟩:=cK Hb
         . obtain ⟨_,f,Hb⟩:=bK Hb;obtain ⟨_,j,_,_⟩:=Uc f;have _:0<=KP/\KP<8:=AQ;have _:(Int.toNat KP)<=7:=AQ;obtain ⟨_,Hb⟩ | ⟨_,Hb⟩:=cK Hb
           . obtain ⟨_,Hb⟩ | ⟨_,Hb⟩:=cK Hb
             . exact AL (Bjd _ _ (kI Hb))
             cases kR Hb;cases kR Ip;exact zP a
           cases kR Hb;cases kR Ip;exact zP a
         cases kR Hb;cases kR Ip;exact zP a
       cases kR Hb;cases kR Ip;exact zP a
     cases kR Ip;exact zP a
   cases kR Ip;exact zP a
 exact zP a
def W5(b:KI)(e:Int):Int->Option ((Int)⊕(Int⊕Int))
 | a=>cond (a<(b.CQ.length:Int)) ((CU b.CQ a).bind λ f=>(HE f e).bind λ Lq=>cond Lq (some (.inr (.inr ((a:Int))))) (some (.inl (i64.wrap (a+1))))) (some (.inr (.inl a)))
def K6(b:KI)(e:Int):Option (Int):=
 (C9 (W5 b e) 0).bind (λ | .inl Ii=>some (-1) | .inr (a)=>some a)
theorem LR{e f r}(a:K6 e f=some r):
   Rq 98 [.agg e.c,iD f] [] [] (iD r):=by
 refine EC func98 Ben ?_;unfold K6 at a;obtain ⟨i,g,a⟩:=bE a;refine HV g [1,2] [2] (λ q=>[(5,iD q)]) (λ _=>[]) ?_;rintro j _ EJ b;rw[W5.eq_1] at EJ;obtain ⟨_,EJ⟩ | ⟨_,EJ⟩:=cK EJ
 . cases kR EJ;exact zP a
 obtain ⟨_,EJ,_⟩:=jK I1 EJ;refine FI EJ Mi λ _ EJ=>?_;obtain ⟨_,EJ⟩ | ⟨_,EJ⟩:=cK EJ
 . exact AL (b _ _ (kI EJ))
 cases kR EJ;exact zP a
def LO(a:KI)(b:Int)(e:Int):Option (Int):=
 (Kh a).bind λ f=>cond f (cond (b<0) (some 19) (cond (8<=b) (some 19) (cond (e<0) (some 19) (cond ((a.CP.length:Int)<=e) (some 19) (some 0))))) (some 20)
theorem WX{b e f r}(a:LO b e f=some r):
   Rq 187 [.agg b.c,iD e,iD f] [] [] (iD r):=by
 refine EC func187 Ay4 ?_;unfold LO at a;refine Eb a Q3 λ _ a=>?_;refine cP a λ _ a=>?_;obtain ⟨_,a⟩ | ⟨_,a⟩:=cE a
 . obtain ⟨_,a⟩ | ⟨_,a⟩:=cE a
   . obtain ⟨_,a⟩ | ⟨_,a⟩:=cE a
     . refine cP a λ _ a=>?_;exact zP a
     exact zP a
   exact zP a
 exact zP a
def P7(b:KI)(a:Int):Option (Int):=
 (Kh b).bind λ e=>cond e (cond (a<0) (some 19) (cond (8<=a) (some 19) (some 0))) (some 20)
theorem Abi{b e r}(a:P7 b e=some r):
   Rq 208 [.agg b.c,iD e] [] [] (iD r):=by
 refine EC func208 Axo ?_;unfold P7 at a;refine Eb a Q3 λ _ a=>?_;refine cP a λ _ a=>?_;obtain ⟨_,a⟩ | ⟨_,a⟩:=cE a
 . refine cP a λ _ a=>?_;exact zP a
 exact zP a
def Iu(b:KI)(a:Int):Option (KI×Int):=
 (LO b 0 a).bind λ f=>cond (f=0) ((CU b.CP a).bind λ g=>cond (g=(-1)) (some ((⟨[],[]⟩:KI),24)) ((H5 b).bind λ e=>(CU e.CP a).bind λ GS=>some ((⟨(e.CP.set a.toNat (-1)),e.CQ⟩:KI),0))) (some ((⟨[],[]⟩:KI),f))
theorem NY{b e r}(a:Iu b e=some r):
   Rq 141 [.agg b.c,iD e] [] [] (.Em [.agg r.1.c,iD r.2]):=by
 refine EC func141 Az8 ?_;unfold Iu at a;refine Eb a WX λ _ a=>?_;refine cP a λ _ a=>?_;obtain ⟨_,a,_⟩:=jE Dk a;obtain ⟨_,a⟩ | ⟨_,a⟩:=cE a
 . refine Eb a Nq λ _ a=>?_;obtain ⟨_,a,_⟩:=jE Dk a;exact zP a
 exact zP a
def Jt(e:Aa)(f:Int):Aa×Int->Option ((Aa×Int)⊕((Aa×Int)))
 | (b,a)=>cond (a<(e.length:Int)) ((CU e a).bind λ GS=>cond (GS=f) (some (.inl (b,(i64.wrap (a+1))))) (cond (b.length+1<10000000) (some (.inl ((b++[GS]),(i64.wrap (a+1))))) none)) (some (.inr (b,a)))
def IB(a:Aa)(b:Int):Option Aa:=
 (C9 (Jt a b) ([],0)).bind (λ (Jq,OR)=>some Jq)
theorem WI{b e r}(a:IB b e=some r):
   Rq 212 [sD (CS b),iD e] [] [] (sD (CS r)):=by
 refine EC func212 Axk ?_;unfold IB at a;obtain ⟨i,g,a⟩:=bE a;refine A ?_;refine E0 g (λ q=>⟨[(0,sD (CS b)),(1,iD e),(5,rD 25 q.1),(6,iD q.2)],[(25,.arr 3 1 (CS q.1))],27⟩) ((Wk.nil (t:=5) (q:=25) (sz:=1) 3 rfl rfl AV).trans Wr) ?_;rintro ⟨j,k⟩ _ EO YN;rw[Jt.eq_1] at EO;obtain ⟨_,EO⟩ | ⟨_,EO⟩:=cK EO
 . cases kR EO;exact zP a
 obtain ⟨_,EO,_⟩:=jK Dk EO;obtain ⟨_,EO⟩ | ⟨_,EO⟩:=cK EO
 . obtain ⟨f,EO⟩:=gK EO;refine G7 f ?_;exact AL (YN _ _ (kI EO))
 exact AL (YN _ _ (kI EO))
def LQ(b:KI)(e:Int):Option (KI×Int×Int):=
 (P7 b e).bind λ g=>cond (g=0) ((K6 b e).bind λ a=>cond (a<0) (some ((⟨[],[]⟩:KI),0,25)) ((H5 b).bind λ f=>(CU f.CQ a).bind λ i=>(IB i e).bind λ Lq=>some ((⟨f.CP,(f.CQ.set a.toNat Lq)⟩:KI),a,0))) (some ((⟨[],[]⟩:KI),0,g))
theorem W2{b e r}(a:LQ b e=some r):
   Rq 186 [.agg b.c,iD e] [] [] (.Em [.agg r.1.c,iD r.2.1,iD r.2.2]):=by
 refine EC func186 Ay5 ?_;unfold LQ at a;refine Eb a Abi λ _ a=>?_;refine cP a λ _ a=>?_;refine Eb a LR λ _ a=>?_;obtain ⟨_,a⟩ | ⟨_,a⟩:=cE a
 . refine Eb a Nq λ _ a=>?_;refine C4 [2,20023] [0,0,0,0,0,0,0,0,0,2,0,3] ?_;obtain ⟨_,a,_⟩:=jE I1 a;refine FH a WI λ _ a=>?_;exact zP a
 exact zP a
abbrev AB:=List Gnt
def SQ(e:Ac):Aa×Ab×AB×Int->Option ((Aa×Ab×AB×Int)⊕((Aa×Ab×AB×Int)))
 | (a,b,JR,FP)=>cond (FP<(a.length:Int)) ((CU a FP).bind λ I6=>cond (I6=(-1)) ((CU e FP).bind λ OP=>cond OP (some (.inl (a,b,JR,(i64.wrap (FP+1))))) ((CU b FP).bind λ OK=>cond (0<(OK.length:Int)) ((CU OK 0).bind λ Yi=>cond (0<=1/\1<=(OK.length:Int)/\(OK.length:Int)<=(OK.length:Int)) (cond (JR.length+1<10000000) (some (.inl ((a.set FP.toNat Yi),(b.set FP.toNat ((OK.take OK.length).drop 1)),(JR++[(⟨Yi,FP⟩:Gnt)]),(i64.wrap (FP+1))))) none) none) (some (.inl (a,b,JR,(i64.wrap (FP+1))))))) (some (.inl (a,b,JR,(i64.wrap (FP+1)))))) (some (.inr (a,b,JR,FP)))
def N0(a:KI)(b:Ac):Option (KI×AB×Int):=
 (Kh a).bind λ f=>cond f (cond ((b.length:Int)=(a.CP.length:Int)) ((H5 a).bind λ e=>(C9 (SQ b) (e.CP,e.CQ,[],0)).bind (λ (v43,v44,v45,v46)=>some ((⟨v43,v44⟩:KI),v45,0))) (some ((⟨[],[]⟩:KI),[],19))) (some ((⟨[],[]⟩:KI),[],20))
theorem Ajl{j b r}(a:N0 j b=some r):
   Rq 152 [.agg j.c,sD (Dl b)] [] [] (.Em [.agg r.1.c,sD (Ht r.2.1),iD r.2.2]):=by
 refine EC func152 Ayz ?_;unfold N0 at a;refine Eb a Q3 λ _ a=>?_;refine cP a λ _ a=>?_;refine cP a λ _ a=>?_;refine Eb a Nq λ _ a=>?_;obtain ⟨k,g,a⟩:=bE a;refine A ?_;refine E0 g (λ q=>⟨[(1,sD (Dl b)),(2,.ptr 2 0),(4,.ptr 4 0),(7,rD 79 q.2.2.1),(8,iD q.2.2.2)],[(2,.box [rD 10022 q.1,rD 20022 q.2.1]),(4,.box [.cl [],.cl []]),(79,.arr 205 2 (Ht q.2.2.1)),(10022,.arr 3 1 (CS q.1)),(20022,.arr 23 1 (Dy q.2.1))],82⟩) ((Wk.nil (t:=7) (q:=79) (sz:=2) 205 rfl rfl AV).trans Wr) ?_;rintro ⟨l,m,JR,FP⟩ _ Fw Akk;rw[SQ.eq_1] at Fw;obtain ⟨_,Fw⟩ | ⟨_,Fw⟩:=cK Fw
 . cases kR Fw;exact zP a
 obtain ⟨_,Fw,_⟩:=jK Dk Fw;obtain ⟨_,Fw⟩ | ⟨_,Fw⟩:=cK Fw
 . exact AL (Akk _ _ (kI Fw))
 obtain ⟨_,Fw,_⟩:=jK DZ Fw;obtain ⟨_,Fw⟩ | ⟨_,Fw⟩:=cK Fw
 . obtain ⟨OK,Fw,_⟩:=jK I1 Fw;obtain ⟨_,Fw⟩ | ⟨_,Fw⟩:=cK Fw
   . exact AL (Akk _ _ (kI Fw))
   obtain ⟨_,Fw,i,_⟩:=iK Fw;have _:(CS OK).getD 0 []=_:=Dk i;refine Dd [0,0,0,0,0,0,0,0,0,0,3] ?_;obtain ⟨e,Fw⟩:=gK Fw;have _:=Bg e;obtain ⟨f,Fw⟩:=gK Fw;(try simp only[go_sem, *,J4 OK]);refine An f ?_;exact AL (Akk _ _ (kI Fw))
 exact AL (Akk _ _ (kI Fw))
def SO(e:KI)(f:Int):Aa×Int->Option ((Aa×Int)⊕((Aa×Int)))
 | (b,a)=>cond (a<(e.CP.length:Int)) ((CU e.CP a).bind λ I7=>cond (I7=f) (cond (b.length+1<10000000) (some (.inl ((b++[a]),(i64.wrap (a+1))))) none) (some (.inl (b,(i64.wrap (a+1)))))) (some (.inr (b,a)))
def LP(a:KI)(b:Int):Option (Aa×Int):=
 (P7 a b).bind λ e=>cond (e=0) ((C9 (SO a b) ([],0)).bind (λ (v20,v21)=>some (v20,0))) (some ([],e))
theorem WZ{e f r}(a:LP e f=some r):
   Rq 175 [.agg e.c,iD f] [] [] (.Em [sD (CS r.1),iD r.2]):=by
 refine EC func175 Ayg ?_;unfold LP at a;refine Eb a Abi λ _ a=>?_;refine cP a λ _ a=>?_;obtain ⟨j,i,a⟩:=bE a;refine A ?_;refine E0 i (λ q=>⟨[(1,iD f),(2,.ptr 2 0),(7,rD 32 q.1),(8,iD q.2)],[(2,.box e.c),(32,.arr 3 1 (CS q.1))],34⟩) ((Wk.nil (t:=7) (q:=32) (sz:=1) 3 rfl rfl AV).trans Wr) ?_;rintro ⟨k,l⟩ _ Fv b;rw[SO.eq_1] at Fv;obtain ⟨_,Fv⟩ | ⟨_,Fv⟩:=cK Fv
 . cases kR Fv;exact zP a
 obtain ⟨_,Fv,_⟩:=jK Dk Fv;obtain ⟨_,Fv⟩ | ⟨_,Fv⟩:=cK Fv
 . exact AL (b _ _ (kI Fv))
 obtain ⟨g,Fv⟩:=gK Fv;refine G7 g ?_;exact AL (b _ _ (kI Fv))
def NH(a:Tsk)(b:Int):Option (Bool):=
 cond (a.state=0) (cond (a.pick=b) (some true) (some (decide (a.drop=b)))) (cond (a.state=1) (cond (a.pick=b) (some true) (some (decide (a.drop=b)))) (cond (a.state=2) (some (decide (a.drop=b))) (some false)))
theorem Zt{b e r}(a:NH b e=some r):
   Rq 136 [.agg b.c,iD e] [] [] (bD r):=by
 refine EC func136 Azc ?_;unfold NH at a;obtain ⟨_,a⟩ | ⟨_,a⟩:=cE a
 . obtain ⟨_,a⟩ | ⟨_,a⟩:=cE a
   . refine cP a λ _ a=>?_;exact zP a
   refine cP a λ _ a=>?_;exact zP a
 refine cP a λ _ a=>?_;exact zP a
def Sz(f:Nt)(e:Int):Int->Option ((Int)⊕(Int⊕(Int×Int)))
 | a=>cond (a<(f.CT.length:Int)) ((CU f.CT a).bind λ b=>cond (b.base<=e) (cond (e<(i64.wrap (b.base+b.Eg))) (some (.inr (.inr (((a,(i64.wrap ((i64.wrap (e - b.base))+1))):Int×Int))))) (some (.inl (i64.wrap (a+1))))) (some (.inl (i64.wrap (a+1))))) (some (.inr (.inl a)))
def Ff(b:Nt)(e:Int):Option (Int×Int):=
 (C9 (Sz b e) 0).bind (λ | .inl Ho=>some ((-1),0) | .inr (a)=>some a)
theorem FV{e f r}(a:Ff e f=some r):
   Rq 112 [.agg e.c,iD f] [] [] (.Em [iD r.1,iD r.2]):=by
 refine EC func112 Azy ?_;unfold Ff at a;obtain ⟨i,g,a⟩:=bE a;refine HV g [1,2] [2] (λ q=>[(6,iD q)]) (λ _=>[]) ?_;rintro j _ EJ b;rw[Sz.eq_1] at EJ;obtain ⟨_,EJ⟩ | ⟨_,EJ⟩:=cK EJ
 . cases kR EJ;exact zP a
 obtain ⟨_,EJ,_⟩:=jK Ew EJ;obtain ⟨_,EJ⟩ | ⟨_,EJ⟩:=cK EJ
 . exact AL (b _ _ (kI EJ))
 obtain ⟨_,EJ⟩ | ⟨_,EJ⟩:=cK EJ
 . exact AL (b _ _ (kI EJ))
 refine Dd [0,0,0,0,0,0,0,0] ?_;cases kR EJ;exact zP a
def LH(b:Nt)(a:Int)(e:Int):Option (Bool):=
 cond (a<0) (some false) ((Ff b a).bind λ (x2,x3)=>some (decide (x2=e)))
theorem WH{b e f r}(a:LH b e f=some r):
   Rq 227 [.agg b.c,iD e,iD f] [] [] (bD r):=by
 refine EC func227 Axd ?_;unfold LH at a;obtain ⟨_,a⟩ | ⟨_,a⟩:=cE a
 . refine Eb a FV ?_;rintro ⟨_,_⟩ a;exact zP a
 exact zP a
abbrev Ao:=List Tsk
def JT(f:Nt)(a:KM)(g:Ao)(b:Int):Option (Bool):=
 cond (a.state=1) ((LH f a.cell b).bind λ i=>cond i (some true) ((LH f a.E9 b).bind λ j=>cond j (some true) (cond (a.DY<0) (some false) ((CU g a.DY).bind λ e=>cond (a.Du=1) (cond (e.pick=b) (some true) (cond (e.drop=b) (some true) (cond (a.Du=2) (some false) (some false)))) (cond (a.Du=2) (some (decide (e.drop=b))) (some false)))))) (some false)
theorem Aa6{b e f g r}(a:JT b e f g=some r):
   Rq 214 [.agg b.c,.agg e.c,sD (DE f),iD g] [] [] (bD r):=by
 refine EC func214 Axi ?_;unfold JT at a;refine cP a λ _ a=>?_;refine Eb a WH λ _ a=>?_;obtain ⟨_,a⟩ | ⟨_,a⟩:=cE a
 . refine Eb a WH λ _ a=>?_;obtain ⟨_,a⟩ | ⟨_,a⟩:=cE a
   . obtain ⟨_,a⟩ | ⟨_,a⟩:=cE a
     . obtain ⟨_,a,_⟩:=jE EF a;obtain ⟨_,a⟩ | ⟨_,a⟩:=cE a
       . refine cP a λ _ a=>?_;exact zP a
       obtain ⟨_,a⟩ | ⟨_,a⟩:=cE a
       . obtain ⟨_,a⟩ | ⟨_,a⟩:=cE a
         . refine cP a λ _ a=>?_;exact zP a
         exact zP a
       exact zP a
     exact zP a
   exact zP a
 exact zP a
abbrev Ah:=List KM
def Sw(b:Nt)(e:Ah)(f:Ao)(a:Int):Aa×Int->Option ((Aa×Int)⊕((Aa×Int)))
 | (FP,Ho)=>cond (Ho<(e.length:Int)) ((CU b.CT a).bind λ Fo=>cond Fo.Fq (some (.inr (FP,Ho))) ((CU e Ho).bind λ Nn=>(JT b Nn f a).bind λ OK=>cond OK ((CU FP a).bind λ O3=>some (.inl ((FP.set a.toNat (i64.wrap (O3+1))),(i64.wrap (Ho+1))))) (some (.inl (FP,(i64.wrap (Ho+1))))))) (some (.inr (FP,Ho)))
def Sv(b:Nt)(f:Ah)(g:Ao):Aa×Int->Option ((Aa×Int)⊕((Aa×Int)))
 | (e,a)=>cond (a<(b.CT.length:Int)) ((C9 (Sw b f g a) (e,0)).bind (λ (v38,v39)=>some (.inl (v38,(i64.wrap (a+1)))))) (some (.inr (e,a)))
def JU(a:Nt)(b:Ah)(e:Ao):Option Aa:=
 cond (a.CT.length<10000000) ((C9 (Sv a b e) ((List.replicate a.CT.length 0),0)).bind (λ (v40,v41)=>some v40)) none
theorem Aa7{g i j r}(a:JU g i j=some r):
   Rq 191 [.agg g.c,sD (Ec i),sD (DE j)] [] [] (sD (CS r)):=by
 refine EC func191 Ay0 ?_;unfold JU at a;obtain ⟨k,a⟩:=gE a;refine G7 k ?_;obtain ⟨m,e,a⟩:=bE a;refine HV e [1,2,3] [3] (λ q=>[(7,rD 13 q.1),(8,iD q.2)]) (λ q=>[(13,.arr 3 1 (CS q.1))]) ?_;rintro ⟨n,o⟩ _ Hr b;rw[Sv.eq_1] at Hr;obtain ⟨_,Hr⟩ | ⟨_,Hr⟩:=cK Hr
 . cases kR Hr;exact zP a
 obtain ⟨l,f,Hr⟩:=bK Hr;refine HV f [1,2,3,8] [3] (λ q=>[(7,rD 13 q.1),(9,iD q.2)]) (λ q=>[(13,.arr 3 1 (CS q.1))]) ?_;rintro ⟨FP,Ho⟩ _ DO Xk;rw[Sw.eq_1] at DO;obtain ⟨_,DO⟩ | ⟨_,DO⟩:=cK DO
 . cases kR DO;exact AL (b _ _ (kI Hr))
 obtain ⟨_,DO,_⟩:=jK Ew DO;obtain ⟨_,DO⟩ | ⟨_,DO⟩:=cK DO
 . refine Dd [0,0,0,0,0,0,0,3] ?_;obtain ⟨_,DO,_⟩:=jK Da DO;refine Sh DO Aa6 λ _ DO=>?_;obtain ⟨_,DO⟩ | ⟨_,DO⟩:=cK DO
   . exact AL (Xk _ _ (kI DO))
   obtain ⟨_,DO,_⟩:=jK Dk DO;exact AL (Xk _ _ (kI DO))
 cases kR DO;try dsimp only at Hr
 refine A ?_;exact AL (b _ _ (kI Hr))
def SL(b:Nt)(g:Ah)(e:Ao)(i:Int):Option (Bool):=
 (CU e i).bind λ a=>(JU b g e).bind λ f=>cond (a.state=0) ((CU f a.pick).bind λ j=>(CU b.CT a.pick).bind λ Jr=>cond (j<Jr.Eg) ((CU f a.drop).bind λ HB=>(CU b.CT a.drop).bind λ I6=>some (decide (HB<I6.Eg))) (some false)) (some false)
theorem Ara{b e f g r}(a:SL b e f g=some r):
   Rq 146 [.agg b.c,sD (Ec e),sD (DE f),iD g] [] [] (bD r):=by
 refine EC func146 Az4 ?_;unfold SL at a;refine Hs [0,10,20,40,50,60,70,81,32,90,103] ?_;obtain ⟨_,a,_⟩:=jE EF a;refine FH a Aa7 λ _ a=>?_;refine Dd [0,0,0,0,0,0,0,0,0,0,0,0,0,0,0,0,0,0,0,0,0,0,0,0,0,0,0,0,0,0,0,0,0,0] ?_;refine cP a λ _ a=>?_;obtain ⟨_,a,_⟩:=jE Dk a;obtain ⟨_,a,_⟩:=jE Ew a;refine cP a λ _ a=>?_;obtain ⟨_,a,_⟩:=jE Dk a;obtain ⟨_,a,_⟩:=jE Ew a;exact zP a
def Zr(e:Nt)(f:Int):Aa×Int->Option ((Aa×Int)⊕((Aa×Int)))
 | (b,a)=>(CU e.CT f).bind λ JJ=>cond (a<=JJ.Eg) (cond (b.length+1<10000000) (some (.inl ((b++[(i64.wrap ((i64.wrap (JJ.base+a)) - 1))]),(i64.wrap (a+1))))) none) (some (.inr (b,a)))
def It(a:Nt)(b:Int)(e:Int):Option Aa:=
 (C9 (Zr a b) ([],e)).bind (λ (Ii,Jq)=>some Ii)
theorem JX{b e g r}(a:It b e g=some r):
   Rq 192 [.agg b.c,iD e,iD g] [] [(0,.arr 3 1 (CS r))] (rD 0 r):=by
 refine EC func192 Axz ?_;unfold It at a;obtain ⟨j,i,a⟩:=bE a;refine A ?_;refine E0 i (λ q=>⟨[(1,iD e),(3,.ptr 3 0),(7,rD 31 q.1),(8,iD q.2)],[(3,.box b.c),(31,.arr 3 1 (CS q.1))],33⟩) ((Wk.nil (t:=7) (q:=31) (sz:=1) 3 rfl rfl AV).trans Wr) ?_;rintro ⟨k,l⟩ _ EO YN;rw[Zr.eq_1] at EO;obtain ⟨_,EO,_⟩:=jK Ew EO;obtain ⟨_,EO⟩ | ⟨_,EO⟩:=cK EO
 . cases kR EO;(try dsimp only at a);refine A ?_;exact zO a
 obtain ⟨f,EO⟩:=gK EO;refine G7 f ?_;exact AL (YN _ _ (kI EO))
def IA(a:Nt)(b:Mc)(e:Int)(f:Int)(i:Bool):Option Ac:=
 cond (0<=0/\0<=(a.blocks.length:Int)/\(a.blocks.length:Int)<=(b.closed.length:Int)) (cond ((b.closed.take a.blocks.length).length<10000000) (cond i ((CU (b.closed.take a.blocks.length) e).bind λ ON=>some ((b.closed.take a.blocks.length).set e.toNat false)) ((EV b).bind λ g=>cond (0<=(a.blocks.length:Int)/\(a.blocks.length:Int)<=(g.length:Int)) ((CU b.closed f).bind λ GS=>(CU (g.take a.blocks.length) f).bind λ Jp=>(CU ((g.set f.toNat GS).take a.blocks.length) e).bind λ I6=>some (((g.set f.toNat GS).set e.toNat false).take a.blocks.length)) none)) none) none
theorem WG{g f l k E r}(a:IA g f l k E=some r):
   Rq 226 [.agg g.c,.agg f.c,iD l,iD k,bD E] [] [] (sD (Dl r)):=by
 refine EC func226 Axe ?_;unfold IA at a;obtain ⟨H,a⟩:=gE a;have N:=Bg H;obtain ⟨I,a⟩:=gE a;try simp only[go_sem, *,Ji f.closed]
 refine An I ?_;obtain ⟨m,a⟩ | ⟨m,a⟩:=cE a
 . (try simp only[go_sem, *,Ji f.closed]);refine Bhq [0,20,30,40,12,52,60] ?_;refine FH a FG λ B a=>?_;obtain ⟨K,a⟩:=gE a;have Q:=Bg K;have _:g.blocks.length<=B.length:=AQ;have n:((((g.blocks.length:Nat):Int)) - 0).toNat=g.blocks.length:=AT;obtain ⟨GS,a,_,o,p⟩:=jE DZ a;obtain ⟨Jp,y,a⟩:=bE a;have b:=Aha y;have q:=ER b.1;have t:=b.2;have s:(Dl B).getD (Int.toNat k) []=[(.bool Jp)]:=D3 _ b.1;obtain ⟨I6,z,a⟩:=bE a;have e:=Aha z;have i:=ER e.1;have v:=e.2;have u:(Dl (B.set (Int.toNat k) GS)).getD (Int.toNat l) []=[(.bool I6)]:=D3 _ e.1;have j:=i;(try simp only[Bv] at j);cases a;(try simp only[go_sem, *,Eh,D0]);all_goals (try refine Ds ?_)
   all_goals (try simp only[go_sem,Q,n,o,p,q,s,t,i,u,v,j,m,Eh,D0])
   all_goals (try (first | rfl | exact ⟨rfl,rfl⟩ | exact Y0 _ _ | exact Ji _ | (simp;done)))
 obtain ⟨_,a,_,w,x⟩:=jE DZ a;cases a;try simp only[go_sem, *,Ji f.closed]
 all_goals ((try refine Ds ?_);(try simp only[go_sem,N,Ji f.closed,m,w,x]);try first | rfl | exact ⟨rfl,rfl⟩ | (simp;done))
def PC(i:Ab)(e:Int)(Mt:Int):Aa×Int->Option ((Aa×Int)⊕((Aa×Int)))
 | (a,b)=>(CU i Mt).bind λ f=>cond (b<(f.length:Int)) ((CU f b).bind λ g=>(CU a g).bind λ UQ=>cond (UQ=(i64.wrap (e - 1))) ((CU a Mt).bind λ j=>some (.inl ((a.set Mt.toNat e),(i64.wrap (b+1))))) (some (.inl (a,(i64.wrap (b+1)))))) (some (.inr (a,b)))
def U2(b:Ab)(e:Ac)(a:Int):Aa×Int->Option ((Aa×Int)⊕((Aa×Int)))
 | (UU,Mt)=>cond (Mt<(b.length:Int)) ((CU e Mt).bind λ KO=>cond KO (some (.inl (UU,(i64.wrap (Mt+1))))) ((CU UU Mt).bind λ Pw=>cond (0<=Pw) (some (.inl (UU,(i64.wrap (Mt+1))))) ((C9 (PC b a Mt) (UU,0)).bind (λ (v78,v79)=>some (.inl (v78,(i64.wrap (Mt+1)))))))) (some (.inr (UU,Mt)))
def U1(b:Ab)(e:Ac):Aa×Int->Option ((Aa×Int)⊕((Aa×Int)))
 | (O6,a)=>cond (a<(b.length:Int)) ((C9 (U2 b e a) (O6,0)).bind (λ (v80,v81)=>some (.inl (v80,(i64.wrap (a+1)))))) (some (.inr (O6,a)))
def PB(e:Ab):Aa×Int->Option ((Aa×Int)⊕((Aa×Int)))
 | (b,a)=>cond (a<(e.length:Int)) ((CU b a).bind λ f=>some (.inl ((b.set a.toNat (-1)),(i64.wrap (a+1))))) (some (.inr (b,a)))
def Gt(a:Ab)(f:Ac)(b:Int):Option Aa:=
 cond (a.length<10000000) ((C9 (PB a) ((List.replicate a.length 0),0)).bind (λ (v88,v89)=>(CU f b).bind λ e=>cond e (some v88) ((CU v88 b).bind λ g=>(C9 (U1 a f) ((v88.set b.toNat 0),1)).bind (λ (v160,v161)=>some v160)))) none
theorem Ja{j k l r}(a:Gt j k l=some r):
   Rq 110 [sD (Dy j),sD (Dl k),iD l] [] [] (sD (CS r)):=by
 refine EC func110 Ahw ?_;unfold Gt at a;obtain ⟨m,a⟩:=gE a;refine G7 m ?_;obtain ⟨v,b,a⟩:=bE a;refine HV b [0,1,2] [] (λ q=>[(7,rD 14 q.1),(8,iD q.2)]) (λ q=>[(14,.arr 3 1 (CS q.1))]) ?_;rintro ⟨w,x⟩ _ Hr i;rw[PB.eq_1] at Hr;obtain ⟨_,Hr⟩ | ⟨_,Hr⟩:=cK Hr
 . cases kR Hr;obtain ⟨_,a,_⟩:=jE DZ a;obtain ⟨_,a⟩ | ⟨_,a⟩:=cE a
   . obtain ⟨_,a,_⟩:=jE Dk a;obtain ⟨n,e,a⟩:=bE a;refine HV e [0,1] [] (λ q=>[(7,rD 14 q.1),(9,iD q.2)]) (λ q=>[(14,.arr 3 1 (CS q.1))]) ?_;rintro ⟨O6,s⟩ _ Lb Bns;rw[U1.eq_1] at Lb;obtain ⟨_,Lb⟩ | ⟨_,Lb⟩:=cK Lb
     . cases kR Lb;exact zP a
     obtain ⟨o,f,Lb⟩:=bK Lb;refine HV f [0,1,9] [] (λ q=>[(7,rD 14 q.1),(10,iD q.2)]) (λ q=>[(14,.arr 3 1 (CS q.1))]) ?_;rintro ⟨UU,Mt⟩ _ PK Bnr;rw[U2.eq_1] at PK;obtain ⟨_,PK⟩ | ⟨_,PK⟩:=cK PK
     . cases kR PK;exact AL (Bns _ _ (kI Lb))
     obtain ⟨_,PK,_⟩:=jK DZ PK;obtain ⟨_,PK⟩ | ⟨_,PK⟩:=cK PK
     . obtain ⟨_,PK,_⟩:=jK Dk PK;obtain ⟨_,PK⟩ | ⟨_,PK⟩:=cK PK
       . obtain ⟨p,g,PK⟩:=bK PK;refine HV g [0,1,9,10] [] (λ q=>[(7,rD 14 q.1),(11,iD q.2)]) (λ q=>[(14,.arr 3 1 (CS q.1))]) ?_;rintro ⟨t,u⟩ _ Jh Bdc;rw[PC.eq_1] at Jh;obtain ⟨_,Jh,_⟩:=jK I1 Jh;obtain ⟨_,Jh⟩ | ⟨_,Jh⟩:=cK Jh
         . cases kR Jh;(try dsimp only at PK);refine A ?_;exact AL (Bnr _ _ (kI PK))
         obtain ⟨_,Jh,_⟩:=jK Dk Jh;obtain ⟨_,Jh,_⟩:=jK Dk Jh;obtain ⟨_,Jh⟩ | ⟨_,Jh⟩:=cK Jh
         . exact AL (Bdc _ _ (kI Jh))
         obtain ⟨_,Jh,_⟩:=jK Dk Jh;exact AL (Bdc _ _ (kI Jh))
       exact AL (Bnr _ _ (kI PK))
     exact AL (Bnr _ _ (kI PK))
   exact zP a
 obtain ⟨_,Hr,_⟩:=jK Dk Hr;exact AL (i _ _ (kI Hr))
def PA(e:Aa)(b:Int)(RO:Aa):Aa×Int->Option ((Aa×Int)⊕((Aa×Int)))
 | (a,Ls)=>cond (0<=Ls) ((CU e b).bind λ LG=>cond (0<LG) ((CU RO Ls).bind λ R3=>(CU e R3).bind λ KO=>cond (KO=(i64.wrap (LG - 1))) ((CU a b).bind λ Pw=>some (.inl ((a.set b.toNat R3),(i64.wrap (Ls - 1))))) (some (.inl (a,(i64.wrap (Ls - 1)))))) (some (.inr (a,Ls)))) (some (.inr (a,Ls)))
def U0(e:Ab)(f:Aa):Aa×Int->Option ((Aa×Int)⊕((Aa×Int)))
 | (b,a)=>cond (a<(e.length:Int)) ((CU b a).bind λ I7=>(CU e a).bind λ RO=>(C9 (PA f a RO) ((b.set a.toNat (-1)),(i64.wrap ((RO.length:Int) - 1)))).bind (λ (v50,v51)=>some (.inl (v50,(i64.wrap (a+1)))))) (some (.inr (b,a)))
def KY(a:Ab)(b:Ac)(e:Int):Option Aa:=
 (Gt a b e).bind λ f=>cond (a.length<10000000) ((C9 (U0 a f) ((List.replicate a.length 0),0)).bind (λ (v52,v53)=>some v52)) none
theorem SA{g i j r}(a:KY g i j=some r):
   Rq 161 [sD (Dy g),sD (Dl i),iD j] [] [] (sD (CS r)):=by
 refine EC func161 Ahq ?_;unfold KY at a;refine Eb a Ja λ _ a=>?_;obtain ⟨k,a⟩:=gE a;refine G7 k ?_;obtain ⟨l,e,a⟩:=bE a;refine HV e [0,7] [] (λ q=>[(8,rD 18 q.1),(9,iD q.2)]) (λ q=>[(18,.arr 3 1 (CS q.1))]) ?_;rintro ⟨o,p⟩ _ Fv b;rw[U0.eq_1] at Fv;obtain ⟨_,Fv⟩ | ⟨_,Fv⟩:=cK Fv
 . cases kR Fv;exact zP a
 obtain ⟨_,Fv,_⟩:=jK Dk Fv;obtain ⟨_,Fv,_⟩:=jK I1 Fv;obtain ⟨m,f,Fv⟩:=bK Fv;refine HV f [0,7,9] [] (λ q=>[(8,rD 18 q.1),(10,iD q.2)]) (λ q=>[(18,.arr 3 1 (CS q.1))]) ?_;rintro ⟨n,Ls⟩ _ ES Afo;rw[PA.eq_1] at ES;obtain ⟨_,ES⟩ | ⟨_,ES⟩:=cK ES
 . cases kR ES;exact AL (b _ _ (kI Fv))
 obtain ⟨_,ES,_⟩:=jK Dk ES;obtain ⟨_,ES⟩ | ⟨_,ES⟩:=cK ES
 . cases kR ES;(try dsimp only at Fv);refine A ?_;exact AL (b _ _ (kI Fv))
 obtain ⟨_,ES,_⟩:=jK Dk ES;refine Dd [0,0,0,0,0,0,0,0,0,0] ?_;obtain ⟨_,ES,_⟩:=jK Dk ES;obtain ⟨_,ES⟩ | ⟨_,ES⟩:=cK ES
 . exact AL (Afo _ _ (kI ES))
 obtain ⟨_,ES,_⟩:=jK Dk ES;exact AL (Afo _ _ (kI ES))
def NN(b:Int)(e:Aa):Aa×Int->Option ((Aa×Int)⊕((Aa×Int)))
 | (a,JR)=>cond (JR=b) (some (.inr (a,JR))) ((CU e JR).bind λ Sj=>cond (a.length+1<10000000) (some (.inl ((a++[Sj]),Sj))) none)
def Gr(e:Ab)(f:Ac)(a:Int)(b:Int):Option Aa:=
 (Gt e f b).bind λ g=>(CU g a).bind λ i=>cond (i<0) (some []) ((KY e f b).bind λ j=>(C9 (NN b j) ([a],a)).bind (λ (Ls,So)=>some Ls))
theorem Aaa{f g i j r}(a:Gr f g i j=some r):
   Rq 111 [sD (Dy f),sD (Dl g),iD i,iD j] [] [] (sD (CS r)):=by
 refine EC func111 YZ ?_;unfold Gr at a;refine Eb a Ja λ _ a=>?_;obtain ⟨_,a,_⟩:=jE Dk a;obtain ⟨_,a⟩ | ⟨_,a⟩:=cE a
 . refine Eb a SA λ _ a=>?_;obtain ⟨k,e,a⟩:=bE a;refine HV e [3,9] [] (λ q=>[(2,iD q.2),(10,rD 24 q.1)]) (λ q=>[(24,.arr 3 1 (CS q.1))]) ?_;rintro ⟨l,JR⟩ _ FD Afp;rw[NN.eq_1] at FD;obtain ⟨_,FD⟩ | ⟨_,FD⟩:=cK FD
   . obtain ⟨_,FD,_⟩:=jK Dk FD;obtain ⟨b,FD⟩:=gK FD;refine G7 b ?_;exact AL (Afp _ _ (kI FD))
   cases kR FD;exact zP a
 exact zP a
def UW(b:Nt)(g:Mc)(e:Int)(f:Int):Int->Option ((Int)⊕(Int⊕(Aa×Bool)))
 | a=>cond (a<2) ((IA b g e f (decide (a=1))).bind λ i=>(Gr b.next i e f).bind λ GS=>cond (0<(GS.length:Int)) (cond (0<=1/\1<=(GS.length:Int)/\(GS.length:Int)<=(GS.length:Int)) (some (.inr (.inr (((((GS.take GS.length).drop 1),true):Aa×Bool))))) none) (some (.inl (i64.wrap (a+1))))) (some (.inr (.inl a)))
def Js(b:Nt)(e:Mc)(f:Int)(g:Int):Option (Aa×Bool):=
 (C9 (UW b e f g) 0).bind (λ | .inl Ii=>some ([],false) | .inr (a)=>some a)
theorem Ss{i j k l r}(a:Js i j k l=some r):
   Rq 213 [.agg i.c,.agg j.c,iD k,iD l] [] [] (.Em [sD (CS r.1),bD r.2]):=by
 refine EC func213 Axj ?_;unfold Js at a;obtain ⟨n,m,a⟩:=bE a;refine HV m [2,3,4,5] [4,5] (λ q=>[(10,iD q)]) (λ _=>[]) ?_;rintro o _ EJ g;rw[UW.eq_1] at EJ;obtain ⟨_,EJ⟩ | ⟨_,EJ⟩:=cK EJ
 . cases kR EJ;exact zP a
 refine Hs [0,10,20,30,40,50,60,70,90,100,82,112,120] ?_;refine Sh EJ WG λ _ EJ=>?_;refine Sh EJ Aaa λ GS EJ=>?_;obtain ⟨b,EJ⟩ | ⟨b,EJ⟩:=cK EJ
 . exact AL (g _ _ (kI EJ))
 obtain ⟨e,EJ⟩:=gK EJ;have f:=Bg e;cases kR EJ;try dsimp only at a
 cases a;try simp only[go_sem, *,J4 GS]
 all_goals ((try refine Ds ?_);(try simp only[go_sem,b,f,J4 GS]);try first | rfl | exact ⟨rfl,rfl⟩ | (simp;done))
def UX(e:Mc)(b:Aa):Int->Option ((Int)⊕(Int⊕Bool))
 | a=>cond (a<(b.length:Int)) ((CU b a).bind λ f=>(CU e.closed f).bind λ Lq=>cond Lq (some (.inr (.inr false))) (some (.inl (i64.wrap (a+1))))) (some (.inr (.inl a)))
def HD(b:Mc)(e:Aa):Option (Bool):=
 (C9 (UX b e) 0).bind (λ | .inl OR=>some true | .inr (a)=>some a)
theorem KV{e f r}(a:HD e f=some r):
   Rq 193 [.agg e.c,sD (CS f)] [] [] (bD r):=by
 refine EC func193 Axy ?_;unfold HD at a;obtain ⟨i,g,a⟩:=bE a;refine HV g [1,2] [2] (λ q=>[(5,iD q)]) (λ _=>[]) ?_;rintro j _ EJ b;rw[UX.eq_1] at EJ;obtain ⟨_,EJ⟩ | ⟨_,EJ⟩:=cK EJ
 . cases kR EJ;exact zP a
 refine Dd [0,0,0,0,0,0,0,0] ?_;obtain ⟨_,EJ,_⟩:=jK Dk EJ;obtain ⟨_,EJ,_⟩:=jK DZ EJ;obtain ⟨_,EJ⟩ | ⟨_,EJ⟩:=cK EJ
 . exact AL (b _ _ (kI EJ))
 cases kR EJ;exact zP a
def NT(a:Nt)(e:Mc)(g:Int)(b:Int):Option (Aa×Bool):=
 (Ff a g).bind λ (x1,x2)=>cond (x1=b) ((It a b (i64.wrap (x2+1))).bind λ f=>(HD e f).bind λ Mr=>some (f,Mr)) (cond (0<=x1) ((CU a.CT x1).bind λ I6=>(It a x1 (i64.wrap (x2+1))).bind λ G8=>cond (G8.length+1<10000000) ((CU a.CT b).bind λ ON=>(Js a e I6.out ON.PJ).bind λ (LG,KP)=>cond ((G8++[I6.out]).length+LG.length<10000000) ((It a b 1).bind λ Yi=>cond (((G8++[I6.out])++LG).length+Yi.length<10000000) (cond KP ((HD e (((G8++[I6.out])++LG)++Yi)).bind λ Sl=>cond Sl (some ((((G8++[I6.out])++LG)++Yi),true)) (some ([],false))) (some ([],false))) none) none) none) ((CU a.CT b).bind λ i=>(Js a e g i.PJ).bind λ (JJ,GS)=>cond (JJ.length<10000000) ((It a b 1).bind λ I7=>cond (JJ.length+I7.length<10000000) (cond GS ((HD e (JJ++I7)).bind λ RO=>cond RO (some ((JJ++I7),true)) (some ([],false))) (some ([],false))) none) none))
theorem Abf{m n o p r}(a:NT m n o p=some r):
   Rq 189 [.agg m.c,.agg n.c,iD o,iD p] [] [] (.Em [sD (CS r.1),bD r.2]):=by
 refine EC func189 Ay2 ?_;unfold NT at a;refine Eb a FV ?_;rintro ⟨_,_⟩ a;obtain ⟨_,a⟩ | ⟨_,a⟩:=cE a
 . obtain ⟨_,a⟩ | ⟨_,a⟩:=cE a
   . refine Dd [0,0,0,0,0,0,0,0,0,2,0,0,0,0,0] ?_;obtain ⟨_,a,_⟩:=jE Ew a;refine FH a Ss ?_;rintro ⟨_,_⟩ a;refine Ex [4] [0,10,30,40,22,52,62,70] ?_;obtain ⟨b,a⟩:=gE a;refine G7 b ?_;refine FH a JX λ _ a=>?_;obtain ⟨e,a⟩:=gE a;refine G7 e ?_;refine cP a λ _ a=>?_;obtain ⟨_,j,a⟩:=bE a;refine A ?_;refine CcB (KV j) ?_;refine cP a λ _ a=>?_;exact zP a
   obtain ⟨_,a,_⟩:=jE Ew a;refine Eb a JX λ _ a=>?_;obtain ⟨f,a⟩:=gE a;refine G7 f ?_;refine Dd [0,0,0,0,0,0,0,0,0,2,0,0,0,0,0] ?_;obtain ⟨_,a,_⟩:=jE Ew a;refine FH a Ss ?_;rintro ⟨_,_⟩ a;refine Ex [4] [0,10,30,40,22,52,62,70] ?_;obtain ⟨g,a⟩:=gE a;refine G7 g ?_;refine FH a JX λ _ a=>?_;obtain ⟨i,a⟩:=gE a;refine G7 i ?_;refine cP a λ _ a=>?_;obtain ⟨_,k,a⟩:=bE a;refine A ?_;refine CcB (KV k) ?_;refine cP a λ _ a=>?_;exact zP a
 refine Eb a JX λ _ a=>?_;obtain ⟨_,l,a⟩:=bE a;refine A ?_;refine CcB (KV l) ?_;exact zP a
theorem P0(a0)(a1)(a2)(a3)(r:Aa)(a:Gr a0 a1 a2 a3=some r)(m:r≠[]):
   C3 prog 111 [sD (Dy a0),sD (Dl a1),iD a2,iD a3] [] λ h d=>h=[(0,.arr 3 1 (CS r))]/\d=rD 0 r:=by
 refine Dx func111 rfl YZ (by simp[Tryz.f111]) ?_;unfold Gr at a;refine Eb a Ja λ u a=>?_;obtain ⟨v,a,t,p,s⟩:=jE Dk a;obtain ⟨g,a⟩ | ⟨g,a⟩:=cE a
 . refine Eb a SA λ w a=>?_;obtain ⟨i,f,a⟩:=bE a;refine HV f [3,9] [] (λ q=>[(2,iD q.2),(10,rD 24 q.1)]) (λ q=>[(24,.arr 3 1 (CS q.1))]) ?_;rintro ⟨o,JR⟩ n FD Afp;rw[NN.eq_1] at FD;obtain ⟨b,FD⟩ | ⟨b,FD⟩:=cK FD
   . obtain ⟨Sj,FD,l,j,k⟩:=jK Dk FD;obtain ⟨e,FD⟩:=gK FD;refine G7 e ?_;exact AL (Afp _ _ (kI FD))
   cases kR FD;exact zO a
 cases a;exact absurd rfl m
def WU(j:Nt)(k:KI)(l:Int)(m:Int)(n:Ac)(G8:Aa):Int×Int->Option ((Int×Int)⊕((Int×Int)))
 | (J7,a)=>(CU j.next l).bind λ Yi=>cond (a<(Yi.length:Int)) ((CU Yi a).bind λ NB=>cond (NB=m) (some (.inl (J7,(i64.wrap (a+1))))) ((CU (n.take j.blocks.length) NB).bind λ e=>cond e (some (.inl (J7,(i64.wrap (a+1))))) ((CU k.CP NB).bind λ f=>cond (f=(-1)) ((CU k.CQ NB).bind λ g=>cond (0<(g.length:Int)) (some (.inl (J7,(i64.wrap (a+1))))) ((CU G8 NB).bind λ b=>cond (b<0) (some (.inl (J7,(i64.wrap (a+1))))) (cond (J7<0) (some (.inl (NB,(i64.wrap (a+1))))) ((CU G8 J7).bind λ i=>cond (b<i) (some (.inl (NB,(i64.wrap (a+1))))) (some (.inl (J7,(i64.wrap (a+1))))))))) (some (.inl (J7,(i64.wrap (a+1)))))))) (some (.inr (J7,a)))
def My(a:Nt)(j:Mc)(m:KI)(i:Int)(n:Int)(l:Int):Option (Aa×Bool):=
 (CU a.CT l).bind λ e=>(EV j).bind λ f=>cond (0<=(a.blocks.length:Int)/\(a.blocks.length:Int)<=(f.length:Int)) (cond ((f.take a.blocks.length).length<10000000) ((CU j.closed e.PJ).bind λ Jr=>(CU (f.take a.blocks.length) e.PJ).bind λ JD=>(CU ((f.take a.blocks.length).set e.PJ.toNat Jr) i).bind λ Sj=>(Gt a.next (((f.take a.blocks.length).set e.PJ.toNat Jr).set i.toNat true) e.PJ).bind λ G8=>(C9 (WU a m i n f G8) ((-1),0)).bind (λ (v81,v82)=>cond (v81<0) (some ([],false)) ((Gr a.next (((f.take a.blocks.length).set e.PJ.toNat Jr).set i.toNat true) v81 e.PJ).bind λ b=>cond (b≠[]) ((It a l 1).bind λ g=>cond (b.length+g.length<10000000) ((HD j (b++g)).bind λ k=>some ((b++g),k)) none) none))) none) none
theorem Afc{b m n i o p r}(a:My b m n i o p=some r):
   Rq 150 [.agg b.c,.agg m.c,.agg n.c,iD i,iD o,iD p] [] [] (.Em [sD (CS r.1),bD r.2]):=by
 refine EC func150 Az1 ?_;unfold My at a;obtain ⟨j,a,_⟩:=jE Ew a;refine Hs [0,20,30,40,12,52,60] ?_;refine FH a FG λ g a=>?_;obtain ⟨B,a⟩:=gE a;have _:=Bg B;have f:b.blocks.length<=g.length:=AQ;have _:((((b.blocks.length:Nat):Int)) - 0).toNat=b.blocks.length:=AT;obtain ⟨s,a⟩:=gE a;try simp only[go_sem, *,Eh,D0]
 refine An s ?_;obtain ⟨Jr,a,_⟩:=jE DZ a;obtain ⟨_,a,_⟩:=jE DZ a;obtain ⟨_,a,_,w,_⟩:=jE DZ a;have _:=sl w;try simp only[go_sem, *,Eh,D0]
 refine Eb a Ja λ G8 a=>?_;obtain ⟨E,x,a⟩:=bE a;try simp only[go_sem, *,Eh,D0]
 refine E0 x (λ q=>⟨[(3,iD i),(4,iD o),(5,iD p),(6,.ptr 6 0),(7,.ptr 7 0),(8,.ptr 8 0),(14,iD j.PJ),(15,.ref 310029 0 ((g.take b.blocks.length).length) ((g.take b.blocks.length).length)),(16,.ref 35 0 ((((g.take b.blocks.length).set (Int.toNat j.PJ) Jr).set (Int.toNat i) true).length) ((((g.take b.blocks.length).set (Int.toNat j.PJ) Jr).set (Int.toNat i) true).length)),(17,sD (CS G8)),(18,iD q.1),(19,iD q.2)],[(6,.box b.c),(7,.box m.c),(8,.box n.c),(35,.Oh 1 (Dl (((g.take b.blocks.length).set (Int.toNat j.PJ) Jr).set (Int.toNat i) true))),(310029,.arr 4 1 (Dl (g.take b.blocks.length)))],133⟩) ((Wk.Ani (t:=15) (q:=10029) (k:=b.blocks.length) (sz:=1) (e:=4) (es:=Dl g) 310029 (by simp[get,ZE,ZEu,DX.h,GF.h,DX.h2,GF.h2,f]) (by simp[get,ZE,ZEu,DX.h,GF.h,DX.h2,GF.h2,f]) (by simp[ZE,ZEu,DX.h,GF.h,DX.h2,GF.h2,f]) rfl).trans ((Wk.forget (by simp[ZF,ZE,ZEu,DX.h,GF.h,DX.h2,GF.h2,HA,FA,Hj,Hk,Bv,Eh,D0,CJ f, *])))) ?_;rintro ⟨J7,H⟩ _ E1 Afn;rw[WU.eq_1] at E1;obtain ⟨_,E1,_⟩:=jK I1 E1;obtain ⟨_,E1⟩ | ⟨_,E1⟩:=cK E1
 . cases kR E1;(try dsimp only at a);(try simp only[go_sem, *,Eh,D0]);obtain ⟨l,a⟩ | ⟨l,a⟩:=cE a
   . (try simp only[go_sem, *,Eh,D0]);refine Bhr [6] [0,10,20,30,40,60,70,52,82,92,100] ?_;obtain ⟨_,y,a⟩:=bE a;obtain ⟨u,a⟩:=gE a;(try simp only[go_sem, *,Eh,D0]);refine GhD (P0 b.next (((g.take b.blocks.length).set (Int.toNat j.PJ) Jr).set (Int.toNat i) true) J7 j.PJ _ y (Bg u)) ?_;(try simp only[go_sem, *,Eh,D0]);refine FH a JX λ _ a=>?_;obtain ⟨v,a⟩:=gE a;(try simp only[go_sem, *,Eh,D0]);refine An v ?_;obtain ⟨_,z,a⟩:=bE a;(try simp only[go_sem, *,Eh,D0]);refine CcB (KV z) ?_;cases a;(try simp only[go_sem, *,Eh,D0]);all_goals (try refine Ds ?_)
     all_goals (try simp only[go_sem,Eh,D0])
     all_goals (try (first | rfl | exact ⟨rfl,rfl⟩ | exact Y0 _ _ | exact Ji _ | (simp;done)))
   cases a;(try simp only[go_sem, *,Eh,D0]);all_goals (try refine Ds ?_)
   all_goals (try simp only[go_sem,l,Eh,D0])
   all_goals (try (first | rfl | exact ⟨rfl,rfl⟩ | exact Y0 _ _ | exact Ji _ | (simp;done)))
 obtain ⟨_,E1,_⟩:=jK Dk E1;obtain ⟨_,E1⟩ | ⟨_,E1⟩:=cK E1
 . obtain ⟨_,E1,_⟩:=jK DZ E1;obtain ⟨_,E1⟩ | ⟨_,E1⟩:=cK E1
   . obtain ⟨_,E1,_⟩:=jK Dk E1;obtain ⟨_,E1⟩ | ⟨_,E1⟩:=cK E1
     . have E1:=kI E1;(try simp only[go_sem, *,Eh,D0]);exact Afn _ _ E1 ((Wk.forget (by simp[ZF,ZE,ZEu,DX.h,GF.h,DX.h2,GF.h2,HA,FA,Hj,Hk,Bv,Eh,D0,CJ f, *])))
     obtain ⟨_,E1,_⟩:=jK I1 E1;obtain ⟨_,E1⟩ | ⟨_,E1⟩:=cK E1
     . obtain ⟨_,E1,_⟩:=jK Dk E1;obtain ⟨_,E1⟩ | ⟨_,E1⟩:=cK E1
       . (try simp only[go_sem, *,Eh,D0]);refine Atz [0,0,0,0,0,0,0,0,0,0,0,0,0] ?_;obtain ⟨_,E1⟩ | ⟨_,E1⟩:=cK E1
         . obtain ⟨_,E1,_⟩:=jK Dk E1;obtain ⟨_,E1⟩ | ⟨_,E1⟩:=cK E1
           . have E1:=kI E1;(try simp only[go_sem, *,Eh,D0]);exact Afn _ _ E1 ((Wk.forget (by simp[ZF,ZE,ZEu,DX.h,GF.h,DX.h2,GF.h2,HA,FA,Hj,Hk,Bv,Eh,D0,CJ f, *])))
           have E1:=kI E1;(try simp only[go_sem, *,Eh,D0]);exact Afn _ _ E1 ((Wk.forget (by simp[ZF,ZE,ZEu,DX.h,GF.h,DX.h2,GF.h2,HA,FA,Hj,Hk,Bv,Eh,D0,CJ f, *])))
         have E1:=kI E1;(try simp only[go_sem, *,Eh,D0]);exact Afn _ _ E1 ((Wk.forget (by simp[ZF,ZE,ZEu,DX.h,GF.h,DX.h2,GF.h2,HA,FA,Hj,Hk,Bv,Eh,D0,CJ f, *])))
       have E1:=kI E1;(try simp only[go_sem, *,Eh,D0]);exact Afn _ _ E1 ((Wk.forget (by simp[ZF,ZE,ZEu,DX.h,GF.h,DX.h2,GF.h2,HA,FA,Hj,Hk,Bv,Eh,D0,CJ f, *])))
     have E1:=kI E1;(try simp only[go_sem, *,Eh,D0]);exact Afn _ _ E1 ((Wk.forget (by simp[ZF,ZE,ZEu,DX.h,GF.h,DX.h2,GF.h2,HA,FA,Hj,Hk,Bv,Eh,D0,CJ f, *])))
   have E1:=kI E1;(try simp only[go_sem, *,Eh,D0]);exact Afn _ _ E1 ((Wk.forget (by simp[ZF,ZE,ZEu,DX.h,GF.h,DX.h2,GF.h2,HA,FA,Hj,Hk,Bv,Eh,D0,CJ f, *])))
 have E1:=kI E1;try simp only[go_sem, *,Eh,D0]
 exact Afn _ _ E1 ((Wk.forget (by simp[ZF,ZE,ZEu,DX.h,GF.h,DX.h2,GF.h2,HA,FA,Hj,Hk,Bv,Eh,D0,CJ f, *])))
def Aas(b:Ab)(v3:Int):Int->Option ((Int)⊕(Int⊕Bool))
 | a=>(CU b v3).bind λ HB=>cond (a<(HB.length:Int)) ((CU HB a).bind λ Fo=>cond (Fo<0) (some (.inr (.inr false))) (cond ((b.length:Int)<=Fo) (some (.inr (.inr false))) (cond (Fo=v3) (some (.inr (.inr false))) (cond (0<a) ((CU HB (i64.wrap (a - 1))).bind λ O4=>cond (Fo<=O4) (some (.inr (.inr false))) (some (.inl (i64.wrap (a+1))))) (some (.inl (i64.wrap (a+1)))))))) (some (.inr (.inl a)))
def Ajz(e:Ab):Int->Option ((Int)⊕(Int⊕Bool))
 | a=>cond (a<(e.length:Int)) ((C9 (Aas e a) 0).bind (λ | .inl RQ=>some (.inl (i64.wrap (a+1))) | .inr (b)=>some (.inr (.inr (b))))) (some (.inr (.inl a)))
def Ac5(b:Ab):Option (Bool):=
 cond (24<(b.length:Int)) (some false) ((C9 (Ajz b) 0).bind (λ | .inl e=>some true | .inr (a)=>some a))
theorem Bck{f r}(a:Ac5 f=some r):
   Rq 109 [sD (Dy f)] [] [] (bD r):=by
 refine EC func109 Ahx ?_;unfold Ac5 at a;obtain ⟨_,a⟩ | ⟨_,a⟩:=cE a
 . obtain ⟨k,i,a⟩:=bE a;refine HV i [0] [] (λ q=>[(3,iD q)]) (λ _=>[]) ?_;rintro l _ Yk e;rw[Ajz.eq_1] at Yk;obtain ⟨_,Yk⟩ | ⟨_,Yk⟩:=cK Yk
   . cases kR Yk;exact zP a
   obtain ⟨g,b,Yk⟩:=bK Yk;refine HV b [0,3] [] (λ q=>[(4,iD q)]) (λ _=>[]) ?_;rintro j _ FN Ash;rw[Aas.eq_1] at FN;obtain ⟨_,FN,_⟩:=jK I1 FN;obtain ⟨_,FN⟩ | ⟨_,FN⟩:=cK FN
   . cases kR FN;(try dsimp only at Yk);refine A ?_;exact AL (e _ _ (kI Yk))
   obtain ⟨_,FN,_⟩:=jK Dk FN;obtain ⟨_,FN⟩ | ⟨_,FN⟩:=cK FN
   . obtain ⟨_,FN⟩ | ⟨_,FN⟩:=cK FN
     . obtain ⟨_,FN⟩ | ⟨_,FN⟩:=cK FN
       . obtain ⟨_,FN⟩ | ⟨_,FN⟩:=cK FN
         . exact AL (Ash _ _ (kI FN))
         obtain ⟨_,FN,_⟩:=jK Dk FN;obtain ⟨_,FN⟩ | ⟨_,FN⟩:=cK FN
         . exact AL (Ash _ _ (kI FN))
         cases kR FN;cases kR Yk;exact zP a
       cases kR FN;cases kR Yk;exact zP a
     cases kR FN;cases kR Yk;exact zP a
   cases kR FN;cases kR Yk;exact zP a
 exact zP a
def S3(a:Ab)(b:Ac):Option (Int):=
 (Ac5 a).bind λ e=>cond e (cond ((b.length:Int)=(a.length:Int)) (some 0) (some 19)) (some 20)
theorem An6{b e r}(a:S3 b e=some r):
   Rq 66 [sD (Dy b),sD (Dl e)] [] [] (iD r):=by
 refine EC func66 Aom ?_;unfold S3 at a;refine Eb a Bck λ _ a=>?_;refine cP a λ _ a=>?_;refine cP a λ _ a=>?_;exact zP a
def Pz(b:Ac)(a:Sf):Int->Option ((Int)⊕(Int⊕Bool))
 | Ii=>cond (Ii<(i64.wrap (a.base+a.Eg))) ((CU b Ii).bind λ PY=>cond PY (some (.inr (.inr false))) (some (.inl (i64.wrap (Ii+1))))) (some (.inr (.inl Ii)))
def FJ(f:Nt)(b:Ac)(g:Int):Option (Bool):=
 (CU f.CT g).bind λ a=>(CU b a.PJ).bind λ j=>cond j (some false) ((CU b a.out).bind λ JJ=>cond JJ (some false) ((C9 (Pz b a) a.base).bind (λ | .inl i=>some true | .inr (e)=>some e)))
theorem I9{e f g r}(a:FJ e f g=some r):
   Rq 68 [.agg e.c,sD (Dl f),iD g] [] [] (bD r):=by
 refine EC func68 Aok ?_;unfold FJ at a;obtain ⟨_,a,_⟩:=jE Ew a;obtain ⟨_,a,_⟩:=jE DZ a;obtain ⟨_,a⟩ | ⟨_,a⟩:=cE a
 . obtain ⟨_,a,_⟩:=jE DZ a;obtain ⟨_,a⟩ | ⟨_,a⟩:=cE a
   . obtain ⟨i,b,a⟩:=bE a;refine HV b [1,7] [7] (λ q=>[(8,iD q)]) (λ _=>[]) ?_;rintro Ii _ GO Awy;rw[Pz.eq_1] at GO;obtain ⟨_,GO⟩ | ⟨_,GO⟩:=cK GO
     . cases kR GO;exact zP a
     obtain ⟨_,GO,_⟩:=jK DZ GO;obtain ⟨_,GO⟩ | ⟨_,GO⟩:=cK GO
     . exact AL (Awy _ _ (kI GO))
     cases kR GO;exact zP a
   exact zP a
 exact zP a
def WV(e:Aa)(f:Int):Int×Int->Option ((Int×Int)⊕((Int×Int)))
 | (a,b)=>cond (a<(e.length:Int)) ((CU e a).bind λ OL=>cond (OL=f) (some (.inl ((i64.wrap (a+1)),(i64.wrap (b - 1))))) (some (.inl ((i64.wrap (a+1)),b)))) (some (.inr (a,b)))
def Im(b:Nt)(f:Ac)(g:Aa)(a:Int):Option (Int):=
 (CU b.CT a).bind λ e=>cond e.Fq ((FJ b f a).bind λ i=>cond i ((C9 (WV g a) (0,e.Eg)).bind (λ (v24,Ls)=>some (if Ls<0 then 0 else Ls))) (some 0)) (some 0)
theorem PD{e f g i r}(a:Im e f g i=some r):
   Rq 206 [.agg e.c,sD (Dl f),sD (CS g),iD i] [] [] (iD r):=by
 refine EC func206 Axq ?_;unfold Im at a;obtain ⟨_,a,_⟩:=jE Ew a;refine cP a λ _ a=>?_;refine Eb a I9 λ _ a=>?_;refine cP a λ _ a=>?_;obtain ⟨j,b,a⟩:=bE a;refine HV b [2,3] [] (λ q=>[(9,iD q.2),(10,iD q.1)]) (λ _=>[]) ?_;rintro ⟨k,l⟩ _ ED Acv;rw[WV.eq_1] at ED;obtain ⟨_,ED⟩ | ⟨_,ED⟩:=cK ED
 . cases kR ED;exact zP a
 obtain ⟨_,ED,_⟩:=jK Dk ED;obtain ⟨_,ED⟩ | ⟨_,ED⟩:=cK ED
 . exact AL (Acv _ _ (kI ED))
 exact AL (Acv _ _ (kI ED))
def U8(e:Nt)(f:Ac)(Ls:Int):Aa×Int->Option ((Aa×Int)⊕((Aa×Int)))
 | (Mt,RQ)=>cond (RQ<(e.CT.length:Int)) ((CU Mt Ls).bind λ a=>cond (a=(-1)) ((Im e f Mt RQ).bind λ b=>cond (0<b) (some (.inl ((Mt.set Ls.toNat RQ),(i64.wrap (RQ+1))))) (some (.inl (Mt,(i64.wrap (RQ+1)))))) (some (.inr (Mt,RQ)))) (some (.inr (Mt,RQ)))
def U7(b:Nt)(e:Ac):Aa×Int->Option ((Aa×Int)⊕((Aa×Int)))
 | (a,Ls)=>cond (Ls<(a.length:Int)) ((C9 (U8 b e Ls) (a,0)).bind (λ (v50,v51)=>some (.inl (v50,(i64.wrap (Ls+1)))))) (some (.inr (a,Ls)))
def U6(e:Nt)(f:Ac)(g:Aa):Aa×Int->Option ((Aa×Int)⊕((Aa×Int)))
 | (FP,Ho)=>cond (Ho<(FP.length:Int)) ((CU FP Ho).bind λ b=>cond (b=(-1)) ((CU g Ho).bind λ a=>cond (0<=a) ((Im e f FP a).bind λ TY=>cond (0<TY) (some (.inl ((FP.set Ho.toNat a),(i64.wrap (Ho+1))))) (some (.inl (FP,(i64.wrap (Ho+1)))))) (some (.inl (FP,(i64.wrap (Ho+1)))))) (some (.inl (FP,(i64.wrap (Ho+1)))))) (some (.inr (FP,Ho)))
def U5(e:Nt)(f:Ac)(g:Aa)(i:Aa):Aa×Int->Option ((Aa×Int)⊕((Aa×Int)))
 | (b,a)=>cond (a<(b.length:Int)) ((CU b a).bind λ R4=>(CU g a).bind λ Af5=>cond (Af5=(-2)) ((CU (b.set a.toNat (-1)) a).bind λ Bq7=>some (.inl (((b.set a.toNat (-1)).set a.toNat (-2)),(i64.wrap (a+1))))) ((CU i a).bind λ Sn=>cond (0<=Sn) ((FJ e f Sn).bind λ OQ=>cond OQ ((CU (b.set a.toNat (-1)) a).bind λ Bq9=>some (.inl (((b.set a.toNat (-1)).set a.toNat Sn),(i64.wrap (a+1))))) (some (.inl ((b.set a.toNat (-1)),(i64.wrap (a+1)))))) (some (.inl ((b.set a.toNat (-1)),(i64.wrap (a+1))))))) (some (.inr (b,a)))
def K4(b:Nt)(e:Ac)(a:Aa)(f:Aa):Option Aa:=
 cond (a.length<10000000) ((C9 (U5 b e a f) ((List.replicate a.length 0),0)).bind (λ (Bqg,Bmz)=>(C9 (U6 b e a) (Bqg,0)).bind (λ (Bmx,Bwu)=>(C9 (U7 b e) (Bmx,0)).bind (λ (Bwq,v218)=>some Bwq)))) none
theorem Abh{n o p s r}(a:K4 n o p s=some r):
   Rq 209 [.agg n.c,sD (Dl o),sD (CS p),sD (CS s)] [] [] (sD (CS r)):=by
 refine EC func209 Axn ?_;unfold K4 at a;obtain ⟨t,a⟩:=gE a;refine G7 t ?_;obtain ⟨y,g,a⟩:=bE a;refine HV g [1,2,3,4] [4] (λ q=>[(9,rD 16 q.1),(10,iD q.2)]) (λ q=>[(16,.arr 3 1 (CS q.1))]) ?_;rintro ⟨z,B⟩ _ Hr b;rw[U5.eq_1] at Hr;obtain ⟨_,Hr⟩ | ⟨_,Hr⟩:=cK Hr
 . cases kR Hr;obtain ⟨u,i,a⟩:=bE a;refine HV i [1,2,4] [4] (λ q=>[(9,rD 16 q.1),(11,iD q.2)]) (λ q=>[(16,.arr 3 1 (CS q.1))]) ?_;rintro ⟨FP,Ho⟩ _ DO Xk;rw[U6.eq_1] at DO;obtain ⟨_,DO⟩ | ⟨_,DO⟩:=cK DO
   . cases kR DO;obtain ⟨v,j,a⟩:=bE a;refine HV j [1,4] [4] (λ q=>[(9,rD 16 q.1),(12,iD q.2)]) (λ q=>[(16,.arr 3 1 (CS q.1))]) ?_;rintro ⟨x,Ls⟩ _ ES Afo;rw[U7.eq_1] at ES;obtain ⟨_,ES⟩ | ⟨_,ES⟩:=cK ES
     . cases kR ES;exact zP a
     obtain ⟨w,k,ES⟩:=bK ES;refine HV k [1,4,12] [4] (λ q=>[(9,rD 16 q.1),(13,iD q.2)]) (λ q=>[(16,.arr 3 1 (CS q.1))]) ?_;rintro ⟨Mt,RQ⟩ _ D6 Aae;rw[U8.eq_1] at D6;obtain ⟨_,D6⟩ | ⟨_,D6⟩:=cK D6
     . cases kR D6;exact AL (Afo _ _ (kI ES))
     obtain ⟨_,D6,_⟩:=jK Dk D6;obtain ⟨_,D6⟩ | ⟨_,D6⟩:=cK D6
     . cases kR D6;(try dsimp only at ES);refine A ?_;exact AL (Afo _ _ (kI ES))
     obtain ⟨_,l,D6⟩:=bK D6;refine A ?_;refine CcB (PD l) ?_;obtain ⟨_,D6⟩ | ⟨_,D6⟩:=cK D6
     . exact AL (Aae _ _ (kI D6))
     exact AL (Aae _ _ (kI D6))
   refine Dd [0,0,0,0,0,0,0,0,0,0,0,0,0,0,0,0,0,0,0,0,2,0,0] ?_;obtain ⟨_,DO,_⟩:=jK Dk DO;obtain ⟨_,DO⟩ | ⟨_,DO⟩:=cK DO
   . exact AL (Xk _ _ (kI DO))
   obtain ⟨_,DO,_⟩:=jK Dk DO;obtain ⟨_,DO⟩ | ⟨_,DO⟩:=cK DO
   . exact AL (Xk _ _ (kI DO))
   obtain ⟨_,m,DO⟩:=bK DO;refine A ?_;refine GhB (PD m) ?_;obtain ⟨_,DO⟩ | ⟨_,DO⟩:=cK DO
   . exact AL (Xk _ _ (kI DO))
   exact AL (Xk _ _ (kI DO))
 obtain ⟨_,Hr,_⟩:=jK Dk Hr;obtain ⟨_,Hr,_⟩:=jK Dk Hr;obtain ⟨_,Hr⟩ | ⟨_,Hr⟩:=cK Hr
 . refine Dd [0,0,0,0,0,0,0,0,0,0,0,0,2,0] ?_;obtain ⟨_,Hr,_⟩:=jK Dk Hr;obtain ⟨_,Hr⟩ | ⟨_,Hr⟩:=cK Hr
   . exact AL (b _ _ (kI Hr))
   refine Sh Hr I9 λ _ Hr=>?_;obtain ⟨_,Hr⟩ | ⟨_,Hr⟩:=cK Hr
   . exact AL (b _ _ (kI Hr))
   obtain ⟨_,Hr,_,e,_⟩:=jK Dk Hr;have _:=sl e;exact AL (b _ _ (kI Hr))
 obtain ⟨_,Hr,_,f,_⟩:=jK Dk Hr;have _:=sl f;exact AL (b _ _ (kI Hr))
def Abg(b:Ao)(f:Ac)(g:Int):Int->Option ((Int)⊕(Int⊕Int))
 | a=>cond (a<(b.length:Int)) ((CU b a).bind λ e=>cond (e.state=0) ((CU f a).bind λ I7=>cond I7 (some (.inr (.inr ((a:Int))))) (cond (g<=e.over) (some (.inr (.inr (((-1):Int))))) (some (.inl (i64.wrap (a+1)))))) (some (.inl (i64.wrap (a+1))))) (some (.inr (.inl a)))
def P6(b:Ao)(e:Ac)(f:Int):Option (Int):=
 (C9 (Abg b e f) 0).bind (λ | .inl g=>some (-1) | .inr (a)=>some a)
theorem Amj{e f g r}(a:P6 e f g=some r):
   Rq 147 [sD (DE e),sD (Dl f),iD g] [] [] (iD r):=by
 refine EC func147 Az3 ?_;unfold P6 at a;obtain ⟨j,i,a⟩:=bE a;refine HV i [0,1,2] [] (λ q=>[(7,iD q)]) (λ _=>[]) ?_;rintro k _ EJ b;rw[Abg.eq_1] at EJ;obtain ⟨_,EJ⟩ | ⟨_,EJ⟩:=cK EJ
 . cases kR EJ;exact zP a
 obtain ⟨_,EJ,_⟩:=jK EF EJ;obtain ⟨_,EJ⟩ | ⟨_,EJ⟩:=cK EJ
 . exact AL (b _ _ (kI EJ))
 obtain ⟨_,EJ,_⟩:=jK DZ EJ;obtain ⟨_,EJ⟩ | ⟨_,EJ⟩:=cK EJ
 . obtain ⟨_,EJ⟩ | ⟨_,EJ⟩:=cK EJ
   . exact AL (b _ _ (kI EJ))
   cases kR EJ;exact zP a
 cases kR EJ;exact zP a
def Zs(a:Int):Ao×Int->Option ((Ao×Int)⊕((Ao×Int)))
 | (JR,FP)=>cond (FP<a) ((CU JR FP).bind λ I6=>cond (I6.state=0) (some (.inl ((JR.set FP.toNat {I6 with over:=(i64.wrap (I6.over+1))}),(i64.wrap (FP+1))))) (some (.inl (JR,(i64.wrap (FP+1)))))) (some (.inr (JR,FP)))
def NU(b:Ao)(a:Int)(f:Int):Option Ao:=
 cond (b.length<10000000) ((CU b a).bind λ e=>(CU (b.set a.toNat {e with state:=1}) a).bind λ g=>(C9 (Zs a) (((b.set a.toNat {e with state:=1}).set a.toNat {g with CY:=f}),0)).bind (λ (So,Zm)=>some So)) none
theorem Afd{e f g r}(a:NU e f g=some r):
   Rq 148 [sD (DE e),iD f,iD g] [] [(0,.arr 229 5 (DE r))] (rD 0 r):=by
 refine EC func148 Az2 ?_;unfold NU at a;obtain ⟨i,a⟩:=gE a;refine G7 i ?_;obtain ⟨_,a,_⟩:=jE EF a;obtain ⟨_,a,_,k,_⟩:=jE EF a;have _:=sl k;obtain ⟨j,b,a⟩:=bE a;refine HV b [1] [] (λ q=>[(7,rD 10 q.1),(8,iD q.2)]) (λ q=>[(10,.arr 229 5 (DE q.1))]) ?_;rintro ⟨JR,FP⟩ _ Fw Akk;rw[Zs.eq_1] at Fw;obtain ⟨_,Fw⟩ | ⟨_,Fw⟩:=cK Fw
 . cases kR Fw;exact zO a
 obtain ⟨_,Fw,_⟩:=jK EF Fw;obtain ⟨_,Fw⟩ | ⟨_,Fw⟩:=cK Fw
 . exact AL (Akk _ _ (kI Fw))
 exact AL (Akk _ _ (kI Fw))
end Go.Am
end
noncomputable section
namespace Go.Am
open Go Go.Proofs
open Go.IntKind (i64)
open Tryz
open Classical in noncomputable def u_r03_Valid_v (a:Nt):Option Bool:=if smallN a then some (decide (validN a)) else none
set_option maxRecDepth 100000
set_option linter.unusedVariables false
set_option linter.unusedSimpArgs false
set_option maxHeartbeats 2000000
theorem FW{b r}(a:u_r03_Valid_v b=some r):C3 prog 35 [.agg b.c] [] λ h d=>h=[]/\d=bD r:=by
 unfold u_r03_Valid_v at a;split at a
 . rename_i e;obtain rfl:=Bf a;have:=Agb b e;exact this
 . cases a
def E5(a:KM):Option (Bool):=
 cond (a.state=0) (some true) (some (decide (a.state=1)))
theorem GG{b r}(a:E5 b=some r):
   Rq 135 [.agg b.c] [] [] (bD r):=by
 refine EC func135 Azd ?_;unfold E5 at a;refine cP a λ _ a=>?_;exact zP a
def WT(g:Ah):Int×Int×Int×Int->Option ((Int×Int×Int×Int)⊕((Int×Int×Int×Int)))
 | (b,e,f,a)=>cond (a<(g.length:Int)) ((CU g a).bind λ Jp=>cond (Jp.state=3) ((E5 Jp).bind λ Wu=>cond Wu (cond Jp.E7 (some (.inl (b,(i64.wrap (e+1)),f,(i64.wrap (a+1))))) (some (.inl (b,(i64.wrap (e+1)),(i64.wrap (f+1)),(i64.wrap (a+1)))))) (some (.inl (b,e,f,(i64.wrap (a+1)))))) ((E5 Jp).bind λ Sj=>cond Sj (cond Jp.E7 (some (.inl ((i64.wrap (b+1)),(i64.wrap (e+1)),f,(i64.wrap (a+1))))) (some (.inl ((i64.wrap (b+1)),(i64.wrap (e+1)),(i64.wrap (f+1)),(i64.wrap (a+1)))))) (some (.inl ((i64.wrap (b+1)),e,f,(i64.wrap (a+1))))))) (some (.inr (b,e,f,a)))
def Ft(a:Ah):Option (Int×Int×Int):=
 (C9 (WT a) (0,0,0,0)).bind (λ (v28,J7,v30,v31)=>some (v28,J7,v30))
theorem HM{e r}(a:Ft e=some r):
   Rq 113 [sD (Ec e)] [] [] (.Em [iD r.1,iD r.2.1,iD r.2.2]):=by
 refine EC func113 Azx ?_;unfold Ft at a;obtain ⟨f,b,a⟩:=bE a;refine HV b [0] [] (λ q=>[(5,iD q.1),(6,iD q.2.1),(7,iD q.2.2.1),(8,iD q.2.2.2)]) (λ _=>[]) ?_;rintro ⟨g,i,j,k⟩ _ EU MK;rw[WT.eq_1] at EU;obtain ⟨_,EU⟩ | ⟨_,EU⟩:=cK EU
 . cases kR EU;exact zP a
 obtain ⟨_,EU,_⟩:=jK Da EU;obtain ⟨_,EU⟩ | ⟨_,EU⟩:=cK EU
 . refine FI EU GG λ _ EU=>?_;obtain ⟨_,EU⟩ | ⟨_,EU⟩:=cK EU
   . exact AL (MK _ _ (kI EU))
   obtain ⟨_,EU⟩ | ⟨_,EU⟩:=cK EU
   . exact AL (MK _ _ (kI EU))
   exact AL (MK _ _ (kI EU))
 refine FI EU GG λ _ EU=>?_;obtain ⟨_,EU⟩ | ⟨_,EU⟩:=cK EU
 . exact AL (MK _ _ (kI EU))
 obtain ⟨_,EU⟩ | ⟨_,EU⟩:=cK EU
 . exact AL (MK _ _ (kI EU))
 exact AL (MK _ _ (kI EU))
def Pb(e:Ah):Aa×Int->Option ((Aa×Int)⊕((Aa×Int)))
 | (a,b)=>cond (b<(e.length:Int)) ((CU e b).bind λ Lq=>(E5 Lq).bind λ HB=>cond HB (cond (a.length+1<10000000) (some (.inl ((a++[Lq.Eu]),(i64.wrap (b+1))))) none) (cond (a.length+1<10000000) (some (.inl ((a++[(-2)]),(i64.wrap (b+1))))) none)) (some (.inr (a,b)))
def Kf(a:Ah):Option Aa:=
 (C9 (Pb a) ([],0)).bind (λ (O6,v24)=>some O6)
theorem U4{e r}(b:Kf e=some r):
   Rq 207 [sD (Ec e)] [] [(0,.arr 3 1 (CS r))] (rD 0 r):=by
 refine EC func207 Axp ?_;unfold Kf at b;obtain ⟨j,i,b⟩:=bE b;refine A ?_;refine E0 i (λ q=>⟨[(0,sD (Ec e)),(3,rD 26 q.1),(4,iD q.2)],[(26,.arr 3 1 (CS q.1))],28⟩) ((Wk.nil (t:=3) (q:=26) (sz:=1) 3 rfl rfl AV).trans Wr) ?_;rintro ⟨k,l⟩ _ Ip a;rw[Pb.eq_1] at Ip;obtain ⟨_,Ip⟩ | ⟨_,Ip⟩:=cK Ip
 . cases kR Ip;exact zO b
 obtain ⟨_,Ip,_⟩:=jK Da Ip;refine FI Ip GG λ _ Ip=>?_;obtain ⟨_,Ip⟩ | ⟨_,Ip⟩:=cK Ip
 . obtain ⟨f,Ip⟩:=gK Ip;refine G7 f ?_;exact AL (a _ _ (kI Ip))
 obtain ⟨g,Ip⟩:=gK Ip;refine G7 g ?_;exact AL (a _ _ (kI Ip))
def Kw(b:Nt)(e:Int):Option (Int):=
 (CU b.CT e).bind λ a=>some (i64.wrap ((i64.wrap (a.base+a.Eg)) - 1))
theorem Pf{b e r}(a:Kw b e=some r):
   Rq 188 [.agg b.c,iD e] [] [] (iD r):=by
 refine EC func188 Ay3 ?_;unfold Kw at a;refine Dd [0,0,0,0,0,0,0,0,0,0,0,0,0,0,0] ?_;obtain ⟨_,a,_⟩:=jE Ew a;exact zP a
def SC(b:Nt):Int×Int->Option ((Int×Int)⊕((Int×Int)))
 | (e,a)=>cond (a<(b.CT.length:Int)) ((CU b.CT a).bind λ GS=>some (.inl ((i64.wrap (e+GS.Eg)),(i64.wrap (a+1))))) (some (.inr (e,a)))
def Fg(a:Nt):Option (Int):=
 (C9 (SC a) ((a.blocks.length:Int),0)).bind (λ (Ho,Ii)=>some Ho)
theorem ID{b r}(a:Fg b=some r):
   Rq 38 [.agg b.c] [] [] (iD r):=by
 refine EC func38 Aoq ?_;unfold Fg at a;obtain ⟨f,e,a⟩:=bE a;refine HV e [1] [1] (λ q=>[(3,iD q.1),(4,iD q.2)]) (λ _=>[]) ?_;rintro ⟨g,i⟩ _ EO YN;rw[SC.eq_1] at EO;obtain ⟨_,EO⟩ | ⟨_,EO⟩:=cK EO
 . cases kR EO;exact zP a
 obtain ⟨_,EO,_⟩:=jK Ew EO;exact AL (YN _ _ (kI EO))
def Jv(a:Nt)(b:Int):Option (Int):=
 (u_r03_Valid_v a).bind λ e=>cond e (cond (b<0) (some 19) ((Fg a).bind λ f=>cond (f<=b) (some 19) (some 0))) (some 20)
theorem Sy{b e r}(a:Jv b e=some r):
   Rq 180 [.agg b.c,iD e] [] [] (iD r):=by
 refine EC func180 Ayb ?_;unfold Jv at a;refine Eb a FW λ _ a=>?_;refine cP a λ _ a=>?_;obtain ⟨_,a⟩ | ⟨_,a⟩:=cE a
 . refine Eb a ID λ _ a=>?_;refine cP a λ _ a=>?_;exact zP a
 exact zP a
def UZ(b:Nt)(e:Int):Aa×Int->Option ((Aa×Int)⊕((Aa×Int)))
 | (a,JR)=>cond (JR<(b.CT.length:Int)) ((CU b.CT JR).bind λ Sj=>cond (Sj.PJ=e) (cond (a.length+1<10000000) (some (.inl ((a++[Sj.base]),(i64.wrap (JR+1))))) none) (some (.inl (a,(i64.wrap (JR+1)))))) (some (.inr (a,JR)))
def KX(a:Nt)(b:Int):Option Aa:=
 (Ff a b).bind λ (x1,x2)=>cond (0<=x1) ((Kw a x1).bind λ ON=>cond (b=ON) ((CU a.CT x1).bind λ OK=>some [OK.out]) (some [(i64.wrap (b+1))])) ((CU a.next b).bind λ e=>cond (e.length<10000000) ((C9 (UZ a b) (e,0)).bind (λ (So,Zm)=>some So)) none)
theorem Ab9{f g r}(a:KX f g=some r):
   Rq 181 [.agg f.c,iD g] [] [] (sD (CS r)):=by
 refine EC func181 Aya ?_;unfold KX at a;refine Eb a FV ?_;rintro ⟨_,_⟩ a;obtain ⟨_,a⟩ | ⟨_,a⟩:=cE a
 . obtain ⟨_,a,_⟩:=jE I1 a;obtain ⟨i,a⟩:=gE a;refine G7 i ?_;obtain ⟨j,e,a⟩:=bE a;refine HV e [1,2] [2] (λ q=>[(7,rD 37 q.1),(8,iD q.2)]) (λ q=>[(37,.arr 3 1 (CS q.1))]) ?_;rintro ⟨k,JR⟩ _ FD Afp;rw[UZ.eq_1] at FD;obtain ⟨_,FD⟩ | ⟨_,FD⟩:=cK FD
   . cases kR FD;exact zP a
   obtain ⟨_,FD,_⟩:=jK Ew FD;obtain ⟨_,FD⟩ | ⟨_,FD⟩:=cK FD
   . exact AL (Afp _ _ (kI FD))
   obtain ⟨b,FD⟩:=gK FD;refine G7 b ?_;exact AL (Afp _ _ (kI FD))
 refine Eb a Pf λ _ a=>?_;refine cP a λ _ a=>?_;obtain ⟨_,a,_⟩:=jE Ew a;exact zP a
def Jx(a:Nt)(b:Int)(e:Int):Option (Bool):=
 (Jv a b).bind λ f=>cond (f=0) ((Jv a e).bind λ g=>cond (g=0) ((KX a b).bind λ i=>(HE i e).bind λ j=>some j) (some false)) (some false)
theorem SS{b e f r}(a:Jx b e f=some r):
   Rq 132 [.agg b.c,iD e,iD f] [] [] (bD r):=by
 refine EC func132 Azg ?_;unfold Jx at a;refine Eb a Sy λ _ a=>?_;refine cP a λ _ a=>?_;refine Eb a Sy λ _ a=>?_;refine cP a λ _ a=>?_;refine Eb a Ab9 λ _ a=>?_;refine Eb a Mi λ _ a=>?_;exact zP a
def M4(a:Ab)(b:Ac)(OL:Ac):Int->Option ((Int)⊕(Int⊕(Bool×Int)))
 | Mu=>cond (Mu<(a.length:Int)) ((CU b Mu).bind λ T0=>cond T0 (some (.inl (i64.wrap (Mu+1)))) ((CU OL Mu).bind λ O3=>cond O3 (some (.inl (i64.wrap (Mu+1)))) (some (.inr (.inr (((false,0):Bool×Int))))))) (some (.inr (.inl Mu)))
def RV(b:Ab)(e:Ac):Int×Int->Option ((Int×Int)⊕((Int×Int)⊕(Bool×Int)))
 | (g,a)=>cond (a<(b.length:Int)) ((CU e a).bind λ I7=>cond I7 (some (.inl (g,(i64.wrap (a+1))))) ((MB b e a).bind λ OL=>(C9 (M4 b e OL) 0).bind (λ | .inl i=>some (.inl ((i64.wrap (g+1)),(i64.wrap (a+1)))) | .inr (f)=>some (.inr (.inr (f)))))) (some (.inr (.inl (g,a))))
def Jb(e:Ab)(f:Ac):Option (Bool×Int):=
 (S3 e f).bind λ g=>cond (g=0) ((C9 (RV e f) (0,0)).bind (λ | .inl (b,i)=>some (decide (0<b),0) | .inr (a)=>some a)) (some (false,g))
theorem Yz{e f r}(a:Jb e f=some r):
   Rq 162 [sD (Dy e),sD (Dl f)] [] [] (.Em [bD r.1,iD r.2]):=by
 refine EC func162 Ayt ?_;unfold Jb at a;refine Eb a An6 λ _ a=>?_;refine cP a λ _ a=>?_;obtain ⟨k,g,a⟩:=bE a;refine HV g [0,1] [] (λ q=>[(7,iD q.1),(8,iD q.2)]) (λ _=>[]) ?_;rintro ⟨n,m⟩ _ Fv b;rw[RV.eq_1] at Fv;obtain ⟨_,Fv⟩ | ⟨_,Fv⟩:=cK Fv
 . cases kR Fv;exact zP a
 obtain ⟨_,Fv,_⟩:=jK DZ Fv;obtain ⟨_,Fv⟩ | ⟨_,Fv⟩:=cK Fv
 . obtain ⟨_,i,Fv⟩:=bK Fv;refine A ?_;refine CcD (Rd e f m _ i) ?_;obtain ⟨l,j,Fv⟩:=bK Fv;refine HV j [0,1,7,8,9] [] (λ q=>[(10,iD q)]) (λ _=>[]) ?_;rintro Mu _ Hb Bjd;rw[M4.eq_1] at Hb;obtain ⟨_,Hb⟩ | ⟨_,Hb⟩:=cK Hb
   . cases kR Hb;exact AL (b _ _ (kI Fv))
   obtain ⟨_,Hb,_⟩:=jK DZ Hb;obtain ⟨_,Hb⟩ | ⟨_,Hb⟩:=cK Hb
   . obtain ⟨_,Hb,_⟩:=jK DZ Hb;obtain ⟨_,Hb⟩ | ⟨_,Hb⟩:=cK Hb
     . cases kR Hb;cases kR Fv;exact zP a
     exact AL (Bjd _ _ (kI Hb))
   exact AL (Bjd _ _ (kI Hb))
 exact AL (b _ _ (kI Fv))
def Sx(e:Nt)(f:Ac):Int×Int->Option ((Int×Int)⊕((Int×Int)))
 | (b,a)=>cond (a<(e.CT.length:Int)) ((CU e.CT a).bind λ GS=>cond GS.Fq ((FJ e f a).bind λ JD=>cond JD (some (.inl ((i64.wrap (b+GS.Eg)),(i64.wrap (a+1))))) (some (.inl (b,(i64.wrap (a+1)))))) (some (.inl (b,(i64.wrap (a+1)))))) (some (.inr (b,a)))
def IJ(a:Nt)(b:Ac):Option (Int):=
 (C9 (Sx a b) (0,0)).bind (λ (MZ,v20)=>some MZ)
theorem RU{b e r}(a:IJ b e=some r):
   Rq 37 [.agg b.c,sD (Dl e)] [] [] (iD r):=by
 refine EC func37 Aor ?_;unfold IJ at a;obtain ⟨g,f,a⟩:=bE a;refine HV f [1,2] [2] (λ q=>[(5,iD q.1),(6,iD q.2)]) (λ _=>[]) ?_;rintro ⟨i,j⟩ _ EO YN;rw[Sx.eq_1] at EO;obtain ⟨_,EO⟩ | ⟨_,EO⟩:=cK EO
 . cases kR EO;exact zP a
 obtain ⟨_,EO,_⟩:=jK Ew EO;obtain ⟨_,EO⟩ | ⟨_,EO⟩:=cK EO
 . exact AL (YN _ _ (kI EO))
 refine FI EO I9 λ _ EO=>?_;obtain ⟨_,EO⟩ | ⟨_,EO⟩:=cK EO
 . exact AL (YN _ _ (kI EO))
 exact AL (YN _ _ (kI EO))
def GX(a:Nt)(b:Ac)(e:Int):Option (Bool):=
 cond (0<=0/\0<=(a.blocks.length:Int)/\(a.blocks.length:Int)<=(b.length:Int)) ((Jb a.next (b.take a.blocks.length)).bind λ (x3,x4)=>cond x3 ((IJ a b).bind λ f=>some (decide (e<=f))) (some false)) none
theorem Jd{e b f r}(a:GX e b f=some r):
   Rq 114 [.agg e.c,sD (Dl b),iD f] [] [] (bD r):=by
 refine EC func114 Azw ?_;unfold GX at a;refine Dd [0,0,0,0,0,0,0,2,0,0,0,0,0] ?_;obtain ⟨g,a⟩:=gE a;have _:=Bg g;try simp only[go_sem, *,Ji b]
 refine FH a Yz ?_;rintro ⟨_,_⟩ a;refine cP a λ _ a=>?_;refine Eb a RU λ _ a=>?_;exact zP a
def KW(a:Ac)(b:Int):Option Ac:=
 cond (a.length<10000000) ((CU a b).bind λ e=>some (a.set b.toNat true)) none
theorem Ab8{b e r}(a:KW b e=some r):
   Rq 224 [sD (Dl b),iD e] [] [] (sD (Dl r)):=by
 refine EC func224 Axg ?_;unfold KW at a;obtain ⟨f,a⟩:=gE a;refine G7 f ?_;obtain ⟨_,a,_⟩:=jE DZ a;exact zP a
def K8(e:Nt)(a:Ac)(b:Int)(f:Int):Option (Bool):=
 (CU a b).bind λ g=>cond g (some false) ((KW a b).bind λ i=>(GX e i f).bind λ j=>some j)
theorem Abl{b e f g r}(a:K8 b e f g=some r):
   Rq 204 [.agg b.c,sD (Dl e),iD f,iD g] [] [] (bD r):=by
 refine EC func204 Axs ?_;unfold K8 at a;refine Hs [0,10,20,30,40,50,60,70,80,100,92,112,120,130] ?_;obtain ⟨_,a,_⟩:=jE DZ a;obtain ⟨_,a⟩ | ⟨_,a⟩:=cE a
 . refine FH a Ab8 λ _ a=>?_;refine FH a Jd λ _ a=>?_;exact zP a
 exact zP a
abbrev Au:=List UO
def Ku(a:Au)(b:UO):Option Au:=
 cond (6<(a.length:Int)) (some []) (cond (a.length<10000000) (cond ((a.length:Int)<6) (cond (a.length+1<10000000) (some (a++[b])) none) (some a)) none)
theorem Pc{b e r}(a:Ku b e=some r):
   Rq 100 [sD (Et b),.agg e.c] [] [] (sD (Et r)):=by
 refine EC func100 Ba5 ?_;unfold Ku at a;obtain ⟨_,a⟩ | ⟨_,a⟩:=cE a
 . obtain ⟨f,a⟩:=gE a;refine G7 f ?_;refine cP a λ _ a=>?_;obtain ⟨g,a⟩:=gE a;refine G7 g ?_;exact zP a
 exact zP a
def Kq(a:Au)(b:Int):Option (Bool):=
 cond ((a.length:Int)<=6) (cond (0<=b) (some (decide (b<(a.length:Int)))) (some false)) (some false)
theorem UY{b e r}(a:Kq b e=some r):
   Rq 125 [sD (Et b),iD e] [] [] (bD r):=by
 refine EC func125 Azn ?_;unfold Kq at a;refine cP a λ _ a=>?_;refine cP a λ _ a=>?_;exact zP a
def K7(a:Au)(b:Int):Option (UO×Au×Bool):=
 (Kq a b).bind λ e=>cond e ((CU a b).bind λ f=>cond (0<=0/\0<=b/\b<=(a.length:Int)) (cond (0<=(i64.wrap (b+1))/\(i64.wrap (b+1))<=(a.length:Int)/\(a.length:Int)<=(a.length:Int)) (cond ((a.take b.toNat).length<10000000) (cond ((a.take b.toNat).length+((a.take a.length).drop (Int.toNat (i64.wrap (b+1)))).length<10000000) (some (f,((a.take b.toNat)++((a.take a.length).drop (Int.toNat (i64.wrap (b+1))))),true)) none) none) none) none) (some ((⟨0,0,0,0,0⟩:UO),[],false))
theorem N3{b i r}(a:K7 b i=some r):
   Rq 79 [sD (Et b),iD i] [] [] (.Em [.agg r.1.c,sD (Et r.2.1),bD r.2.2]):=by
 refine EC func79 Bf4 ?_;unfold K7 at a;refine Eb a UY λ _ a=>?_;refine cP a λ _ a=>?_;refine Ex [] [0,10,20,30,40,50,60,80,90,100,110,72,122,132,140,150] ?_;obtain ⟨_,a,_⟩:=jE Ot a;obtain ⟨j,a⟩:=gE a;have _:=Bg j;obtain ⟨e,a⟩:=gE a;have _:=Bg e;obtain ⟨f,a⟩:=gE a;try simp only[go_sem, *,QG b]
 refine An f ?_;obtain ⟨g,a⟩:=gE a;try simp only[go_sem, *,QG b]
 refine An g ?_;exact zP a
def Kv(a:Au)(b:Int):Option (Au×Bool):=
 (K7 a b).bind λ (x1,x2,x3)=>some (x2,x3)
theorem Pe{b e r}(a:Kv b e=some r):
   Rq 83 [sD (Et b),iD e] [] [] (.Em [sD (Et r.1),bD r.2]):=by
 refine EC func83 Bf1 ?_;unfold Kv at a;refine Eb a N3 ?_;rintro ⟨_,_,_⟩ a;exact zP a
def MA(a:Au)(b:Int):Option (Au×Bool):=
 (Kq a b).bind λ e=>cond e ((CU a b).bind λ f=>(Ku a f).bind λ g=>some (g,true)) (some ([],false))
theorem Q6{b e r}(a:MA b e=some r):
   Rq 84 [sD (Et b),iD e] [] [] (.Em [sD (Et r.1),bD r.2]):=by
 refine EC func84 Bf0 ?_;unfold MA at a;refine Eb a UY λ _ a=>?_;refine cP a λ _ a=>?_;obtain ⟨_,a,_⟩:=jE Ot a;refine Eb a Pc λ _ a=>?_;exact zP a
def Fe(a:O2):Option (Bool):=
 cond (a.cell=(-1)) (some false) (cond (a.E9=(-1)) (cond a.Qc (some false) (some (!a.H0))) (some false))
theorem G4{b r}(a:Fe b=some r):
   Rq 116 [.agg b.c] [] [] (bD r):=by
 refine EC func116 Azv ?_;unfold Fe at a;obtain ⟨_,a⟩ | ⟨_,a⟩:=cE a
 . refine cP a λ _ a=>?_;refine cP a λ _ a=>?_;exact zP a
 exact zP a
def I8(f:Nt)(a:O2)(b:Int)(e:Int):Option (O2×Bool):=
 cond (b=0) (some ((⟨e,(-1),false,false⟩:O2),!(!decide (a.cell=(-1))))) (cond (b=1) ((Fe a).bind λ HB=>cond HB ((Jx f a.cell e).bind λ Sj=>some (({a with E9:=e}:O2),Sj)) (some (({a with E9:=e}:O2),false))) (cond (b=2) (cond (a.cell=(-1)) (some ((⟨a.E9,(-1),a.Qc,a.H0⟩:O2),false)) (cond (a.E9=(-1)) (some ((⟨a.E9,(-1),a.Qc,a.H0⟩:O2),false)) (some ((⟨a.E9,(-1),a.Qc,a.H0⟩:O2),!a.H0)))) (cond (b=3) ((Fe a).bind λ Lq=>some (({a with Qc:=true}:O2),Lq)) (cond (b=4) (cond (a.cell=(-1)) (some (({a with Qc:=false}:O2),false)) (cond a.Qc (some (({a with Qc:=false}:O2),!a.H0)) (some (({a with Qc:=false}:O2),false)))) (cond (b=5) (some (({a with H0:=true}:O2),!decide (a.cell=(-1)))) (cond (a.cell=(-1)) (some ((⟨(-1),(-1),false,false⟩:O2),false)) ((Fe a).bind λ g=>cond g (some ((⟨(-1),(-1),false,false⟩:O2),true)) (some ((⟨(-1),(-1),false,false⟩:O2),a.H0)))))))))
theorem Yy{b e f g r}(a:I8 b e f g=some r):
   Rq 195 [.agg b.c,.agg e.c,iD f,iD g] [] [] (.Em [.agg r.1.c,bD r.2]):=by
 refine EC func195 Axw ?_;unfold I8 at a;obtain ⟨_,a⟩ | ⟨_,a⟩:=cE a
 . obtain ⟨_,a⟩ | ⟨_,a⟩:=cE a
   . obtain ⟨_,a⟩ | ⟨_,a⟩:=cE a
     . obtain ⟨_,a⟩ | ⟨_,a⟩:=cE a
       . obtain ⟨_,a⟩ | ⟨_,a⟩:=cE a
         . obtain ⟨_,a⟩ | ⟨_,a⟩:=cE a
           . refine C4 [5] [0,0,0,0,2,0,0,0,0,0,2,0] ?_;obtain ⟨_,a⟩ | ⟨_,a⟩:=cE a
             . refine FH a G4 λ _ a=>?_;refine cP a λ _ a=>?_;exact zP a
             exact zP a
           exact zP a
         obtain ⟨_,a⟩ | ⟨_,a⟩:=cE a
         . refine cP a λ _ a=>?_;exact zP a
         exact zP a
       refine Eb a G4 λ _ a=>?_;exact zP a
     obtain ⟨_,a⟩ | ⟨_,a⟩:=cE a
     . refine cP a λ _ a=>?_;exact zP a
     exact zP a
   refine Eb a G4 λ _ a=>?_;refine cP a λ _ a=>?_;refine Eb a SS λ _ a=>?_;exact zP a
 exact zP a
abbrev Aw:=List O2
def W7(f:Nt)(a:Aw)(b:Int)(g:Int)(e:Int):Option (Aw×Int):=
 cond (b<0) (some ([],19)) (cond ((a.length:Int)<=b) (some ([],19)) (cond (e<0) (some ([],19)) (cond (48<=e) (some ([],19)) ((CU a b).bind λ i=>(I8 f i g e).bind λ (x9,JJ)=>cond JJ (cond (a.length<10000000) (some ((a.set b.toNat x9),0)) none) (some ([],24))))))
theorem Aw2{e f g i j r}(a:W7 e f g i j=some r):
   Rq 153 [.agg e.c,sD (Ei f),iD g,iD i,iD j] [] [] (.Em [sD (Ei r.1),iD r.2]):=by
 refine EC func153 Ayy ?_;unfold W7 at a;obtain ⟨k,a⟩ | ⟨k,a⟩:=cE a
 . obtain ⟨_,a⟩ | ⟨_,a⟩:=cE a
   . obtain ⟨_,a⟩ | ⟨_,a⟩:=cE a
     . obtain ⟨_,a⟩ | ⟨_,a⟩:=cE a
       . refine Ex [5] [0,10,20,30,40,50,60,111,72,80,90,100,122,130] ?_;obtain ⟨_,a,_⟩:=jE TF a;refine FH a Yy ?_;rintro ⟨_,_⟩ a;refine cP a λ _ a=>?_;obtain ⟨b,a⟩:=gE a;refine G7 b ?_;exact zP a
       exact zP a
     exact zP a
   exact zP a
 exact zP a
end Go.Am
end
noncomputable section
namespace Go.Am
open Go Go.Proofs
open Go.IntKind (i64)
open Tryz
set_option maxRecDepth 100000
set_option linter.unusedVariables false
set_option linter.unusedSimpArgs false
set_option maxHeartbeats 2000000
def JV(a:Int):Option (Bool):=
 cond (a=1) (some true) (cond (a=2) (some true) (some (decide (a=3))))
theorem Aa9{b r}(a:JV b=some r):
   Rq 178 [iD b] [] [] (bD r):=by
 refine EC func178 Ayd ?_;unfold JV at a;obtain ⟨_,a⟩ | ⟨_,a⟩:=cE a
 . refine cP a λ _ a=>?_;exact zP a
 exact zP a
def II(a:UO):Option (Bool):=
 (JV a.kind).bind λ b=>cond b (cond (a.CY<0) (some false) (cond (8<=a.CY) (some false) (cond (a.seq<1) (some false) (cond (a.cell<0) (some false) (cond (48<=a.cell) (some false) (cond (a.flag<0) (some false) (cond (2<a.flag) (some false) (cond (a.kind=1) (some (decide (a.flag<=1))) (cond (a.kind=2) (some (decide (1<=a.flag))) (some (decide (a.cell=0)))))))))))) (some false)
theorem RT{b r}(a:II b=some r):
   Rq 126 [.agg b.c] [] [] (bD r):=by
 refine EC func126 Azm ?_;unfold II at a;refine Eb a Aa9 λ _ a=>?_;refine cP a λ _ a=>?_;obtain ⟨_,a⟩ | ⟨_,a⟩:=cE a
 . obtain ⟨_,a⟩ | ⟨_,a⟩:=cE a
   . obtain ⟨_,a⟩ | ⟨_,a⟩:=cE a
     . obtain ⟨_,a⟩ | ⟨_,a⟩:=cE a
       . obtain ⟨_,a⟩ | ⟨_,a⟩:=cE a
         . obtain ⟨_,a⟩ | ⟨_,a⟩:=cE a
           . obtain ⟨_,a⟩ | ⟨_,a⟩:=cE a
             . obtain ⟨_,a⟩ | ⟨_,a⟩:=cE a
               . refine cP a λ _ a=>?_;exact zP a
               exact zP a
             exact zP a
           exact zP a
         exact zP a
       exact zP a
     exact zP a
   exact zP a
 exact zP a
def Mh(a:Int)(b:Int):Option (Bool):=
 some (decide (a<b))
theorem Aa8{a b r}(e:Mh a b=some r):
   Rq 127 [.p (.int .u64 a),.p (.int .u64 b)] [] [] (bD r):=by
 refine EC func127 Azl ?_;unfold Mh at e;exact zP e
def P8(a:Wy)(e:Int)(b:UO):Option (Wy×Au):=
 (II b).bind λ f=>cond f (cond (b.CY=e) (cond (b.kind=1) ((Mh a.last b.seq).bind λ JJ=>cond JJ (some ((⟨b.seq,b.cell,decide (b.flag=1),0,0⟩:Wy),[(⟨3,e,b.seq,0,0⟩:UO)])) (some (a,[(⟨3,e,b.seq,0,0⟩:UO)]))) (cond (b.kind=3) (cond (a.Iw=0) (some (a,[])) (cond (b.seq=a.last) (cond (b.flag=a.Iw) (some (({a with Iw:=0,cell:=0}:Wy),[])) (some (a,[]))) (some (a,[])))) (some (a,[])))) (some (a,[]))) (some (a,[]))
theorem Amm{b e f r}(a:P8 b e f=some r):
   Rq 80 [.agg b.c,iD e,.agg f.c] [] [] (.Em [.agg r.1.c,sD (Et r.2)]):=by
 refine EC func80 Bf3 ?_;unfold P8 at a;refine Eb a RT λ _ a=>?_;refine cP a λ _ a=>?_;refine cP a λ _ a=>?_;obtain ⟨_,a⟩ | ⟨_,a⟩:=cE a
 . refine cP a λ _ a=>?_;obtain ⟨_,a⟩ | ⟨_,a⟩:=cE a
   . refine cP a λ _ a=>?_;refine cP a λ _ a=>?_;exact zP a
   exact zP a
 refine Eb a Aa8 λ _ a=>?_;obtain ⟨_,a⟩ | ⟨_,a⟩:=cE a
 . refine C4 [3,5] [0,0,0,0,0,1,2,0] ?_;exact zP a
 refine C4 [3,5] [0,0,0,0,0,1,2,0] ?_;exact zP a
def Ha(a:Wy)(b:Int):Option Au:=
 some [(⟨2,b,a.last,a.cell,a.Iw⟩:UO)]
theorem Ju{a b r}(e:Ha a b=some r):
   Rq 131 [.agg a.c,iD b] [] [] (sD (Et r)):=by
 refine EC func131 Azh ?_;unfold Ha at e;exact zP e
def N2(a:Wy)(b:Int)(e:O2):Option Au:=
 cond (a.Iw=0) (some []) (cond e.H0 (some []) ((Ha a b).bind λ f=>some f))
theorem Ajn{b e f r}(a:N2 b e f=some r):
   Rq 86 [.agg b.c,iD e,.agg f.c] [] [] (sD (Et r)):=by
 refine EC func86 Bey ?_;unfold N2 at a;obtain ⟨_,a⟩ | ⟨_,a⟩:=cE a
 . obtain ⟨_,a⟩ | ⟨_,a⟩:=cE a
   . refine Eb a Ju λ _ a=>?_;exact zP a
   exact zP a
 exact zP a
def Jc(f:Nt)(b:Wy)(e:Int)(a:O2):Option (Wy×O2×Au):=
 cond (a.cell=(-1)) (some (b,a,[])) (cond a.H0 (some (b,({a with H0:=true}:O2),[])) (cond (a.E9=(-1)) ((Fe ({a with H0:=false}:O2)).bind λ j=>cond j (cond (b.E9=(-1)) (some (b,({a with H0:=false}:O2),[])) ((Jx f a.cell b.E9).bind λ Lq=>cond Lq (some (b,(⟨a.cell,b.E9,a.Qc,false⟩:O2),[])) (some (b,({a with H0:=false}:O2),[])))) (some (b,({a with H0:=false}:O2),[]))) (cond a.Qc ((Ha (⟨b.last,(-1),b.serve,1,a.E9⟩:Wy) e).bind λ i=>some ((⟨b.last,(-1),b.serve,1,a.E9⟩:Wy),(⟨a.E9,(-1),true,false⟩:O2),i)) ((Ha (⟨b.last,(-1),b.serve,1,a.E9⟩:Wy) e).bind λ g=>some ((⟨b.last,(-1),b.serve,1,a.E9⟩:Wy),(⟨a.E9,(-1),b.serve,false⟩:O2),g)))))
theorem W6{b e f g r}(a:Jc b e f g=some r):
   Rq 87 [.agg b.c,.agg e.c,iD f,.agg g.c] [] [] (.Em [.agg r.1.c,.agg r.2.1.c,sD (Et r.2.2)]):=by
 refine EC func87 Bex ?_;unfold Jc at a;obtain ⟨_,a⟩ | ⟨_,a⟩:=cE a
 . obtain ⟨_,a⟩ | ⟨_,a⟩:=cE a
   . obtain ⟨_,a⟩ | ⟨_,a⟩:=cE a
     . obtain ⟨_,a⟩ | ⟨_,a⟩:=cE a
       . refine C4 [7] [0,0,0,2,0,3] ?_;refine C4 [5,7] [0,0,0,0,2,2,2,0] ?_;refine FH a Ju λ _ a=>?_;exact zP a
       refine C4 [7] [0,0,0,2,0,3] ?_;refine C4 [5,7] [0,0,0,0,2,2,2,0] ?_;refine FH a Ju λ _ a=>?_;exact zP a
     refine Eb a G4 λ _ a=>?_;obtain ⟨_,a⟩ | ⟨_,a⟩:=cE a
     . refine C4 [5,7] [0,0,2,2,0] ?_;exact zP a
     obtain ⟨_,a⟩ | ⟨_,a⟩:=cE a
     . refine Eb a SS λ _ a=>?_;obtain ⟨_,a⟩ | ⟨_,a⟩:=cE a
       . refine C4 [5,7] [0,0,2,2,0] ?_;exact zP a
       refine C4 [5,7] [0,0,2,2,0] ?_;exact zP a
     refine C4 [5,7] [0,0,2,2,0] ?_;exact zP a
   refine C4 [5,7] [0,0,2,2,0] ?_;exact zP a
 refine C4 [5,7] [0,0,2,2,0] ?_;exact zP a
def N1(b:Wy)(e:Int)(a:O2):Option (Wy×O2×Au):=
 cond (a.cell=(-1)) (some (b,a,[])) (cond a.Qc (cond a.H0 (some (b,(⟨a.cell,a.E9,true,true⟩:O2),[])) ((Ha ({b with Iw:=2,cell:=a.cell}:Wy) e).bind λ f=>some (({b with Iw:=2,cell:=a.cell}:Wy),(⟨a.cell,a.E9,false,false⟩:O2),f))) (some (b,({a with Qc:=false}:O2),[])))
theorem Abk{b e f r}(a:N1 b e f=some r):
   Rq 89 [.agg b.c,iD e,.agg f.c] [] [] (.Em [.agg r.1.c,.agg r.2.1.c,sD (Et r.2.2)]):=by
 refine EC func89 Bew ?_;unfold N1 at a;obtain ⟨_,a⟩ | ⟨_,a⟩:=cE a
 . obtain ⟨_,a⟩ | ⟨_,a⟩:=cE a
   . refine C4 [3,5] [0,0,2,2,0] ?_;exact zP a
   obtain ⟨_,a⟩ | ⟨_,a⟩:=cE a
   . refine C4 [5] [0,0,0,2,0,3] ?_;refine C4 [3,5] [0,0,0,0,2,2,2,0] ?_;refine FH a Ju λ _ a=>?_;exact zP a
   refine C4 [3,5] [0,0,2,2,0] ?_;exact zP a
 refine C4 [3,5] [0,0,2,2,0] ?_;exact zP a
def Agh(f:Nt)(e:Int):Aa×Int->Option ((Aa×Int)⊕((Aa×Int)))
 | (b,a)=>cond (0<=e) ((CU f.CT e).bind λ I7=>cond (a<(i64.wrap (I7.base+I7.Eg))) (cond (b.length+1<10000000) (some (.inl ((b++[a]),(i64.wrap (a+1))))) none) (some (.inr (b,a)))) (some (.inr (b,a)))
def K0(a:Nt)(b:Int):Option Aa:=
 (Ff a b).bind λ (x1,x2)=>(C9 (Agh a x1) ([],(i64.wrap (b+1)))).bind (λ (v20,v21)=>some v20)
theorem NP{b i r}(a:K0 b i=some r):
   Rq 72 [.agg b.c,iD i] [] [] (sD (CS r)):=by
 refine EC func72 Bfa ?_;unfold K0 at a;refine Eb a FV ?_;rintro ⟨k,_⟩ a;obtain ⟨j,f,a⟩:=bE a;refine A ?_;refine E0 f (λ q=>⟨[(2,.ptr 2 0),(5,iD k),(7,rD 41 q.1),(8,iD q.2)],[(2,.box b.c),(41,.arr 3 1 (CS q.1))],43⟩) ((Wk.nil (t:=7) (q:=41) (sz:=1) 3 rfl rfl AV).trans Wr) ?_;rintro ⟨l,m⟩ _ Fv g;rw[Agh.eq_1] at Fv;refine Dd [0,0,0,0,0,0,0,0,0,0,0,0,0,0,0,0,0,0,0] ?_;obtain ⟨_,Fv⟩ | ⟨_,Fv⟩:=cK Fv
 . cases kR Fv;exact zP a
 obtain ⟨_,Fv,_⟩:=jK Ew Fv;obtain ⟨_,Fv⟩ | ⟨_,Fv⟩:=cK Fv
 . cases kR Fv;(try dsimp only at a);refine A ?_;exact zP a
 obtain ⟨e,Fv⟩:=gK Fv;refine G7 e ?_;exact AL (g _ _ (kI Fv))
def K1(a:Nt)(b:Int):Option (Int):=
 cond (b<0) (some (-1)) ((Ff a b).bind λ (x2,x3)=>cond (0<=x2) ((CU a.CT x2).bind λ e=>cond e.Fq (some x2) (some (-1))) (some (-1)))
theorem NQ{b e r}(a:K1 b e=some r):
   Rq 71 [.agg b.c,iD e] [] [] (iD r):=by
 refine EC func71 Bfb ?_;unfold K1 at a;obtain ⟨_,a⟩ | ⟨_,a⟩:=cE a
 . refine Eb a FV ?_;rintro ⟨_,_⟩ a;refine cP a λ _ a=>?_;obtain ⟨_,a,_⟩:=jE Ew a;refine cP a λ _ a=>?_;exact zP a
 exact zP a
def IK(a:KM):Option (Int):=
 cond (a.E9=(-1)) (some a.cell) (some a.E9)
theorem Kr{b r}(a:IK b=some r):
   Rq 190 [.agg b.c] [] [] (iD r):=by
 refine EC func190 Ay1 ?_;unfold IK at a;refine cP a λ _ a=>?_;exact zP a
def Ks(a:KM)(b:Int):Option (UO):=
 cond a.DG (some (⟨1,b,a.seq,a.E9,1⟩:UO)) (some (⟨1,b,a.seq,a.E9,0⟩:UO))
theorem O9{b e r}(a:Ks b e=some r):
   Rq 130 [.agg b.c,iD e] [] [] (.agg r.c):=by
 refine EC func130 Azi ?_;unfold Ks at a;refine cP a λ _ a=>?_;exact zP a
abbrev Ak:=List Ety
def Hz(a:DX)(b:Int)(e:Int)(f:Int):Option Ak:=
 cond (a.CO.length+1<10000000) (some (a.CO++[(⟨0,b,e,f⟩:Ety)])) none
theorem F6{b e f g r}(a:Hz b e f g=some r):
   Rq 121 [.ptr 1000000 0,iD e,iD f,iD g] (DX.h b) (DX.h ({b with CO:=r})) (.Em []):=by
 refine EC func121 Ahu ?_;unfold Hz at a;obtain ⟨i,a⟩:=gE a;refine G7 i ?_;exact zO a
def Rz(b:DX)(a:Int):Option (Ah×Ak):=
 (CU b.CN a).bind λ e=>(CU (b.CN.set a.toNat {e with state:=3}) a).bind λ f=>(Hz {b with CN:=(b.CN.set a.toNat {e with state:=3}).set a.toNat {f with Eu:=(-2)}} 8 a 0).bind λ JJ=>some (((b.CN.set a.toNat {e with state:=3}).set a.toNat {f with Eu:=(-2)}),JJ)
theorem Y7{b e r}(a:Rz b e=some r):
   Rq 142 [.ptr 1000000 0,iD e] (DX.h b) (DX.h ({b with CN:=r.1,CO:=r.2})) (.Em []):=by
 refine EC func142 Az7 ?_;unfold Rz at a;obtain ⟨_,a,_⟩:=jE Da a;obtain ⟨_,a,_,f,_⟩:=jE Da a;have _:=sl f;refine Eb a F6 λ _ a=>?_;exact zO a
def GR(a:DX)(b:Int):Option (Aa×Ab×Ah×Ak):=
 (LQ (⟨a.CP,a.CQ⟩:KI) b).bind λ (x1,x2,x3)=>cond (x3=0) ((CU a.CN b).bind λ e=>(Hz {a with CP:=x1.CP,CQ:=x1.CQ,CN:=a.CN.set b.toNat {e with wait:=0}} 10 b x2).bind λ JJ=>some (x1.CP,x1.CQ,(a.CN.set b.toNat {e with wait:=0}),JJ)) (some (a.CP,a.CQ,a.CN,a.CO))
theorem HU{b e r}(a:GR b e=some r):
   Rq 140 [.ptr 1000000 0,iD e] (DX.h b) (DX.h ({b with CP:=r.1,CQ:=r.2.1,CN:=r.2.2.1,CO:=r.2.2.2})) (.Em []):=by
 refine EC func140 Aht ?_;unfold GR at a;refine Eb a W2 ?_;rintro ⟨_,_,_⟩ a;refine cO a λ _ a=>?_;obtain ⟨_,a,_⟩:=jE Da a;refine Eb a F6 λ _ a=>?_;exact zO a
def Mp(b:DX)(a:KM):Option (Int):=
 cond (a.Du=3) (some a.Eu) (cond (a.Du=1) (cond (0<=a.DY) ((CU b.CR a.DY).bind λ GS=>some GS.pick) (cond (a.Du=2) (some (-1)) (some (-1)))) (cond (a.Du=2) (cond (0<=a.DY) ((CU b.CR a.DY).bind λ e=>some e.drop) (some (-1))) (some (-1))))
theorem JB{b e r}(a:Mp b e=some r):
   Rq 149 [.ptr 1000000 0,.agg e.c] (DX.h b) (DX.h b) (iD r):=by
 refine EC func149 Ahr ?_;unfold Mp at a;obtain ⟨_,a⟩ | ⟨_,a⟩:=cE a
 . obtain ⟨_,a⟩ | ⟨_,a⟩:=cE a
   . refine cO a λ _ a=>?_;refine cO a λ _ a=>?_;refine Dd [0,0,0,0,0,0,0,0,0,0,0] ?_;obtain ⟨_,a,_⟩:=jE EF a;exact zO a
   obtain ⟨_,a⟩ | ⟨_,a⟩:=cE a
   . refine cO a λ _ a=>?_;exact zO a
   refine Dd [0,0,0,0,0,0,0,0,0,0,0] ?_;obtain ⟨_,a,_⟩:=jE EF a;exact zO a
 exact zO a
def Aek(e:DX)(b:KM):Int->Option ((Int)⊕(Int⊕Bool))
 | a=>cond (a<(b.Db.length:Int)) ((CU b.Db a).bind λ HB=>(CU e.closed HB).bind λ I6=>cond I6 (some (.inr (.inr true))) (some (.inl (i64.wrap (a+1))))) (some (.inr (.inl a)))
def JC(a:DX)(b:KM):Option (Bool):=
 (C9 (Aek a b) 0).bind (λ | .inl So=>(Mp a b).bind λ Nn=>cond ((b.Db.length:Int)=0) (cond (0<=Nn) ((IK b).bind λ OK=>(Kw (⟨a.blocks,a.next,a.CT,a.C7,a.cq,a.ca,a.cd,a.cp⟩:Nt) Nn).bind λ KP=>some (!decide (OK=KP))) (some false)) (some false) | .inr (e)=>some e)
theorem G2{b f r}(a:JC b f=some r):
   Rq 184 [.ptr 1000000 0,.agg f.c] (DX.h b) (DX.h b) (bD r):=by
 refine EC func184 Ay7 ?_;unfold JC at a;obtain ⟨i,g,a⟩:=bE a;refine HV g [0,3] [3] (λ q=>[(5,iD q)]) (λ _=>DX.h b) ?_;rintro j _ EJ e;rw[Aek.eq_1] at EJ;obtain ⟨_,EJ⟩ | ⟨_,EJ⟩:=cK EJ
 . cases kR EJ;refine Eb a JB λ _ a=>?_;refine Hs [0,10,20,30,40,50,60,70,80,90,110,120,130,140,150,102,162,170,180,190] ?_;refine cO a λ _ a=>?_;refine cO a λ _ a=>?_;refine FH a Kr λ _ a=>?_;refine FH a Pf λ _ a=>?_;exact zO a
 refine Dd [0,0,0,0,0,0,0,0,0,0,0,0,0] ?_;obtain ⟨_,EJ,_⟩:=jK Dk EJ;obtain ⟨_,EJ,_⟩:=jK DZ EJ;obtain ⟨_,EJ⟩ | ⟨_,EJ⟩:=cK EJ
 . exact AL (e _ _ (kI EJ))
 cases kR EJ;exact zO a
def NK(a:DX)(b:KM):Option (Int×Bool):=
 cond (b.state=1) (cond (b.Du=0) (cond (b.E9=(-1)) ((K1 (⟨a.blocks,a.next,a.CT,a.C7,a.cq,a.ca,a.cd,a.cp⟩:Nt) b.cell).bind λ e=>cond (0<=e) ((Kw (⟨a.blocks,a.next,a.CT,a.C7,a.cq,a.ca,a.cd,a.cp⟩:Nt) e).bind λ f=>some (e,decide (b.cell=f))) (some (e,false))) (some ((-1),false))) (some ((-1),false))) (some ((-1),false))
theorem Apx{b e r}(a:NK b e=some r):
   Rq 143 [.ptr 1000000 0,.agg e.c] (DX.h b) (DX.h b) (.Em [iD r.1,bD r.2]):=by
 refine EC func143 Ahs ?_;unfold NK at a;refine cO a λ _ a=>?_;refine cO a λ _ a=>?_;refine cO a λ _ a=>?_;refine Dd [0,0,0,0,0,0,2,0] ?_;refine FH a NQ λ _ a=>?_;refine Dd [0,0,0,0,0,0,0,0,0,0,0,2,0,0,0,0] ?_;refine cO a λ _ a=>?_;refine FH a Pf λ _ a=>?_;exact zO a
def Ut(a:DX):Option Ac:=
 (EV (⟨a.closed,a.Dm,a.CZ⟩:Mc)).bind λ b=>some b
theorem Aik{b r}(a:Ut b=some r):
   Rq 115 [.ptr 1000000 0] (DX.h b) (DX.h b) (sD (Dl r)):=by
 refine EC func115 Ahv ?_;unfold Ut at a;refine Eb a FG λ _ a=>?_;exact zP a
def TM(a:DX):Option (Bool):=
 (Ft a.CN).bind λ (x1,x2,x3)=>(Ut a).bind λ b=>(GX (⟨a.blocks,a.next,a.CT,a.C7,a.cq,a.ca,a.cd,a.cp⟩:Nt) b x2).bind λ e=>cond e (some (decide (0<x3))) (some false)
theorem Atf{b r}(a:TM b=some r):
   Rq 73 [.ptr 1000000 0] (DX.h b) (DX.h b) (bD r):=by
 refine EC func73 Aoj ?_;unfold TM at a;obtain ⟨⟨_,_,_⟩,e,a⟩:=bE a;refine A ?_;refine CcB (HM e) ?_;refine Hs [0,10,20,30,40,60,52,72,80,90,100,110,120] ?_;refine FH a Aik λ _ a=>?_;refine FH a Jd λ _ a=>?_;refine cO a λ _ a=>?_;exact zO a
def Wj(e:DX)(b:Sf):Int->Option ((Int)⊕(Int⊕Bool))
 | a=>cond (a<(i64.wrap (b.base+b.Eg))) ((CU e.closed a).bind λ Wu=>cond Wu (some (.inr (.inr false))) (some (.inl (i64.wrap (a+1))))) (some (.inr (.inl a)))
def QH(a:DX)(g:Int):Option (Bool):=
 (CU a.CT g).bind λ b=>(LN (⟨a.blocks,a.next,a.CT,a.C7,a.cq,a.ca,a.cd,a.cp⟩:Nt) (⟨a.closed,a.Dm,a.CZ⟩:Mc)).bind λ f=>(C9 (Wj a b) b.base).bind (λ | .inl J7=>(CU f b.PJ).bind λ O4=>cond O4 ((CU f b.out).bind λ NC=>some NC) (some false) | .inr (e)=>some e)
theorem Apf{b f r}(a:QH b f=some r):
   Rq 210 [.ptr 1000000 0,iD f] (DX.h b) (DX.h b) (bD r):=by
 refine EC func210 Axm ?_;unfold QH at a;refine Ex [1000000] [0,10,20,30,40,50,60,70,80,90,100,110,120,130,140,150,160,181,172,192,200] ?_;obtain ⟨_,a,_⟩:=jE Ew a;refine FH a WW λ _ a=>?_;obtain ⟨g,e,a⟩:=bE a;refine HV e [0,5,6] [5] (λ q=>[(7,iD q)]) (λ _=>DX.h b) ?_;rintro i _ EU MK;rw[Wj.eq_1] at EU;obtain ⟨_,EU⟩ | ⟨_,EU⟩:=cK EU
 . cases kR EU;obtain ⟨_,a,_⟩:=jE DZ a;refine cO a λ _ a=>?_;obtain ⟨_,a,_⟩:=jE DZ a;exact zO a
 obtain ⟨_,EU,_⟩:=jK DZ EU;obtain ⟨_,EU⟩ | ⟨_,EU⟩:=cK EU
 . exact AL (MK _ _ (kI EU))
 cases kR EU;exact zO a
def Aim(b:DX)(e:Int):Int->Option ((Int)⊕(Int⊕Bool))
 | a=>cond (a<(b.CT.length:Int)) ((CU b.CR e).bind λ f=>(NH f a).bind λ Lq=>cond Lq ((QH b a).bind λ JD=>cond JD (some (.inl (i64.wrap (a+1)))) (some (.inr (.inr true)))) (some (.inl (i64.wrap (a+1))))) (some (.inr (.inl a)))
def QK(b:DX)(e:Int):Option (Bool):=
 (C9 (Aim b e) 0).bind (λ | .inl MZ=>some false | .inr (a)=>some a)
theorem Wl{e f r}(a:QK e f=some r):
   Rq 183 [.ptr 1000000 0,iD f] (DX.h e) (DX.h e) (bD r):=by
 refine EC func183 Ay8 ?_;unfold QK at a;obtain ⟨i,g,a⟩:=bE a;refine HV g [0,1] [] (λ q=>[(5,iD q)]) (λ _=>DX.h e) ?_;rintro j _ EJ b;rw[Aim.eq_1] at EJ;obtain ⟨_,EJ⟩ | ⟨_,EJ⟩:=cK EJ
 . cases kR EJ;exact zO a
 obtain ⟨_,EJ,_⟩:=jK EF EJ;refine FI EJ Zt λ _ EJ=>?_;obtain ⟨_,EJ⟩ | ⟨_,EJ⟩:=cK EJ
 . exact AL (b _ _ (kI EJ))
 refine FI EJ Apf λ _ EJ=>?_;obtain ⟨_,EJ⟩ | ⟨_,EJ⟩:=cK EJ
 . cases kR EJ;exact zO a
 exact AL (b _ _ (kI EJ))
def Apo(a:DX)(JJ:Aa):Int->Option ((Int)⊕(Int⊕Bool))
 | JR=>cond (JR<(JJ.length:Int)) ((CU JJ JR).bind λ T0=>(CU a.closed T0).bind λ KP=>cond KP (some (.inr (.inr true))) (some (.inl (i64.wrap (JR+1))))) (some (.inr (.inl JR)))
def XY(a:DX)(b:KM):Option (Bool):=
 cond (b.state=1) ((LN (⟨a.blocks,a.next,a.CT,a.C7,a.cq,a.ca,a.cd,a.cp⟩:Nt) (⟨a.closed,a.Dm,a.CZ⟩:Mc)).bind λ i=>(IK b).bind λ f=>(Ff (⟨a.blocks,a.next,a.CT,a.C7,a.cq,a.ca,a.cd,a.cp⟩:Nt) f).bind λ (x6,x7)=>cond (x6<0) ((CU i f).bind λ TZ=>some (!TZ)) ((K0 (⟨a.blocks,a.next,a.CT,a.C7,a.cq,a.ca,a.cd,a.cp⟩:Nt) f).bind λ JJ=>(C9 (Apo a JJ) 0).bind (λ | .inl j=>cond (x6=b.Eu) (some false) ((CU a.CT x6).bind λ Sl=>(CU i Sl.out).bind λ g=>some (!g)) | .inr (e)=>some e))) (some false)
theorem Bam{b f r}(a:XY b f=some r):
   Rq 211 [.ptr 1000000 0,.agg f.c] (DX.h b) (DX.h b) (bD r):=by
 refine EC func211 Axl ?_;unfold XY at a;refine cO a λ _ a=>?_;refine Hs [0,10,20,30,40,50,60,70,80,100,92,112,120,130] ?_;refine FH a WW λ _ a=>?_;refine FH a Kr λ _ a=>?_;refine Eb a FV ?_;rintro ⟨_,_⟩ a;obtain ⟨_,a⟩ | ⟨_,a⟩:=cE a
 . refine Eb a NP λ _ a=>?_;obtain ⟨g,e,a⟩:=bE a;refine HV e [0,3,5,7,9] [3] (λ q=>[(10,iD q)]) (λ _=>DX.h b) ?_;rintro JR _ FD Afp;rw[Apo.eq_1] at FD;obtain ⟨_,FD⟩ | ⟨_,FD⟩:=cK FD
   . cases kR FD;obtain ⟨_,a⟩ | ⟨_,a⟩:=cE a
     . obtain ⟨_,a,_⟩:=jE Ew a;obtain ⟨_,a,_⟩:=jE DZ a;exact zO a
     exact zO a
   refine Dd [0,0,0,0,0,0,0,0,0,0,0,0] ?_;obtain ⟨_,FD,_⟩:=jK Dk FD;obtain ⟨_,FD,_⟩:=jK DZ FD;obtain ⟨_,FD⟩ | ⟨_,FD⟩:=cK FD
   . exact AL (Afp _ _ (kI FD))
   cases kR FD;exact zO a
 obtain ⟨_,a,_⟩:=jE DZ a;exact zO a
def XW(e:DX):Aa×Int->Option ((Aa×Int)⊕((Aa×Int)))
 | (b,a)=>cond (a<(e.CN.length:Int)) ((CU e.CN a).bind λ GS=>(XY e GS).bind λ Jp=>cond Jp (cond (b.length+1<10000000) (some (.inl ((b++[a]),(i64.wrap (a+1))))) none) (some (.inl (b,(i64.wrap (a+1)))))) (some (.inr (b,a)))
def Iq(a:DX):Option Aa:=
 (C9 (XW a) ([],0)).bind (λ (MZ,v20)=>some MZ)
theorem PS{a r}(b:Iq a=some r):
   Rq 185 [.ptr 1000000 0] (DX.h a) (DX.h a) (sD (CS r)):=by
 refine EC func185 Ay6 ?_;unfold Iq at b;obtain ⟨g,f,b⟩:=bE b;refine A ?_;refine E0 f (λ q=>⟨[(0,.ptr 1000000 0),(3,rD 28 q.1),(4,iD q.2)],(DX.h a++[(28,.arr 3 1 (CS q.1))]),30⟩) ((Wk.nil (t:=3) (q:=28) (sz:=1) 3 rfl rfl AV).trans Wr) ?_;rintro ⟨i,j⟩ _ EO YN;rw[XW.eq_1] at EO;obtain ⟨_,EO⟩ | ⟨_,EO⟩:=cK EO
 . cases kR EO;exact zP b
 obtain ⟨_,EO,_⟩:=jK Da EO;refine FI EO Bam λ _ EO=>?_;obtain ⟨_,EO⟩ | ⟨_,EO⟩:=cK EO
 . exact AL (YN _ _ (kI EO))
 obtain ⟨e,EO⟩:=gK EO;refine G7 e ?_;exact AL (YN _ _ (kI EO))
def X0(e:DX)(b:Mc):Bool×Int->Option ((Bool×Int)⊕((Bool×Int)))
 | (f,a)=>cond (a<(e.CR.length:Int)) (cond f ((QK {e with closed:=b.closed,Dm:=b.Dm,CZ:=b.CZ} a).bind λ JD=>some (.inl (!JD,(i64.wrap (a+1))))) (some (.inl (false,(i64.wrap (a+1)))))) (some (.inr (f,a)))
def MT(a:DX)(e:Int):Option (Bool):=
 (Kg (⟨a.closed,a.Dm,a.CZ⟩:Mc) e (-1)).bind λ b=>(Iq {a with closed:=b.closed,Dm:=b.Dm,CZ:=b.CZ}).bind λ f=>(C9 (X0 a b) (decide ((f.length:Int)=0),0)).bind (λ (OR,MZ)=>some OR)
theorem Ag1{b g r}(a:MT b g=some r):
   Rq 138 [.ptr 1000000 0,iD g] (DX.h b) (DX.h b) (bD r):=by
 refine EC func138 Aza ?_;unfold MT at a;refine Eb a Q0 λ f a=>?_;refine Eb a PS λ _ a=>?_;obtain ⟨i,e,a⟩:=bE a;refine HV e [0,5] [5] (λ q=>[(6,bD q.1),(7,iD q.2)]) (λ _=>DX.h ({b with closed:=f.closed,Dm:=f.Dm,CZ:=f.CZ})) ?_;rintro ⟨j,k⟩ _ EU MK;rw[X0.eq_1] at EU;obtain ⟨_,EU⟩ | ⟨_,EU⟩:=cK EU
 . cases kR EU;exact zO a
 obtain ⟨_,EU⟩ | ⟨_,EU⟩:=cK EU
 . exact AL (MK _ _ (kI EU))
 refine FI EU Wl λ _ EU=>?_;exact AL (MK _ _ (kI EU))
def Ag5(a:DX)(i:Int):Int×Int×Bool×Int->Option ((Int×Int×Bool×Int)⊕((Int×Int×Bool×Int)))
 | (e,f,g,b)=>cond (b<(a.CN.length:Int)) ((CU a.CN b).bind λ Jp=>(NK a Jp).bind λ (OL,Sj)=>cond Sj (cond (OL=Jp.Eu) (cond Jp.E7 (some (.inl (e,f,g,(i64.wrap (b+1))))) (cond (i<0) (some (.inl (e,f,true,(i64.wrap (b+1))))) ((NT (⟨a.blocks,a.next,a.CT,a.C7,a.cq,a.ca,a.cd,a.cp⟩:Nt) (⟨a.closed,a.Dm,a.CZ⟩:Mc) Jp.cell i).bind λ (OP,Nn)=>cond Nn (cond (e<0) (some (.inl (b,(OP.length:Int),true,(i64.wrap (b+1))))) (cond ((OP.length:Int)<f) (some (.inl (b,(OP.length:Int),true,(i64.wrap (b+1))))) (some (.inl (e,f,true,(i64.wrap (b+1))))))) (some (.inl (e,f,true,(i64.wrap (b+1)))))))) (some (.inl (e,f,g,(i64.wrap (b+1)))))) (some (.inl (e,f,g,(i64.wrap (b+1)))))) (some (.inr (e,f,g,b)))
def X5(a:DX)(b:Int):Option (Int×Bool):=
 (C9 (Ag5 a b) ((-1),0,false,0)).bind (λ (v32,UU,Mt,RQ)=>some (v32,Mt))
def IH(a:O1):Option (Int):=
 some (if (a.CX.length:Int)<(if (a.CV.length:Int)<(a.CN.length:Int) then (a.CV.length:Int) else (a.CN.length:Int)) then (a.CX.length:Int) else (if (a.CV.length:Int)<(a.CN.length:Int) then (a.CV.length:Int) else (a.CN.length:Int)))
theorem RR{a r}(b:IH a=some r):
   Rq 74 [.agg [sD (CS a.CP),sD (Dy a.CQ),sD (Dl a.closed),sD (CS a.Dm),sD (CS a.CZ),sD (Ec a.CN),sD (DE a.CR),bD a.C6,sD (Ei a.CV),sD (EB a.CX),sD (C8 a.down),sD (C8 a.up)]] [] [] (iD r):=by
 refine EC func74 Bf9 ?_;unfold IH at b;exact zP b
def Mv(a:KM)(f:O2)(b:Wy)(e:Int):Option (Bool):=
 cond (f.cell=(-1)) (cond (e=1) (cond (a.state=1) (cond (a.E9=(-1)) (some false) (some (decide (b.last<a.seq)))) (some false)) (cond (e=2) ((Fe f).bind λ Nn=>cond Nn (some (!decide (b.E9=(-1)))) (some false)) (cond (e=3) (some false) (cond (e=4) (some false) (cond (a.state=1) (cond (b.last=a.seq) (cond (b.Iw=0) (some false) (cond (a.E9=(-1)) (cond (b.Iw=2) (some a.DG) (some false)) (some true))) (some false)) (some false)))))) (cond (e=1) (cond (a.state=1) (cond (a.E9=(-1)) (some false) (some (decide (b.last<a.seq)))) (some false)) (cond (e=2) ((Fe f).bind λ Lq=>cond Lq (some (!decide (b.E9=(-1)))) (some false)) (cond (e=3) (cond f.H0 (some false) (some (!decide (f.E9=(-1))))) (cond (e=4) (cond f.H0 (some false) (some f.Qc)) (cond (a.state=1) (cond (b.last=a.seq) (cond (b.Iw=0) (some false) (cond (a.E9=(-1)) (cond (b.Iw=2) (some a.DG) (some false)) (some true))) (some false)) (some false))))))
end Go.Am
end
