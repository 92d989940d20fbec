/- Texts of this proof, what it rests on, merged: part H. -/
import Derived.Lib.Builder
import Derived.Lib.UnsafeStr
import Derived.Tactics
import Derived.Tactics2
import Derived.Test.YtlfbkkljgighkaaGreatDoorSpG
noncomputable section
namespace Go.Am
open Go Go.Proofs Go.RowKit
open Go.IntKind (i64)
open Tryz
set_option maxRecDepth 100000
set_option linter.unusedVariables false
set_option linter.unusedSimpArgs false
set_option maxHeartbeats 2000000
theorem Aqz:∃j,prog.info? 98=some j/\j.size=2:=by
 obtain ⟨i,u,z,a,b,f,e⟩:=Df Bra;simp only[TI.mk.injEq] at e;exact ⟨i,a,e.1.symm⟩
theorem Zw(b)(w)(h0:w.cell? ⟨b,0,none⟩=some (.pointer (some ⟨b,0,none⟩))):
   Calls prog 62 #[.pointer (some ⟨b,0,none⟩)] w λ e w'=>e= .returned (.tuple #[])/\w'=w:=by
 obtain ⟨j,a,_⟩:=Aqz
 go_enter func62,ntmps62
 go_wp2
 rw[Lib.run_neq_ptr_same w _ underlying95 a]
 go_wp2
 go_end0
 exact ⟨rfl,rfl⟩
theorem Yr(b)(w)(h0:w.cell? ⟨b,0,none⟩=some (.pointer none))(a:w.shape? b=some (98,2))(i:w.frozen? ⟨b,0,none⟩=false):
   Calls prog 62 #[.pointer (some ⟨b,0,none⟩)] w λ e w'=>e= .returned (.tuple #[])/\w'=w.setCell ⟨b,0,none⟩ (.pointer (some ⟨b,0,none⟩)):=by
 obtain ⟨j,g,f⟩:=Aqz
 go_enter func62,ntmps62
 go_wp2
 rw[Lib.run_to_unsafe w ⟨b,0,none⟩ underlying95 underlying211 g (by rw[f];decide) a (Nat.zero_lt_succ 1)];simp only[Result.andThen];rw[Oper.upon_value]
 go_wp2
 rw[run_callFunc_extern func107 AX AX AX (e:=Extern.AbiNoEscape.same) AX];rw[Lib.run_noEscape];simp only[Result.andThen];rw[Oper.upon_value]
 go_wp2
 rw[Lib.run_from_unsafe w ⟨b,0,none⟩ underlying211 underlying95 g a AX];simp only[Result.andThen];rw[Oper.upon_value]
 go_wp2
 go_end0
 exact ⟨rfl,rfl⟩
theorem Bbh(b g n cap)(p)(l)(cur)(T)(w)(fr)(hb:w.heap[b]?=some (.cells #[p,.slice (some ⟨g,0,none⟩) n cap] T (0,0)))(r:n=l.length)(h0:l≠[])
   (o:w.heap[g]?=some (.cells cur 5 fr)) (t:n<=cap) (f:cap<=maxLen) (m:cur.size=cap) (D5:∀(j:Nat) (x:UInt8),l[j]?=some x->cur[j]?=some (Value.int .u8 x.toNat)):
   Calls prog 31 #[.pointer (some ⟨b,0,none⟩)] w λ e w'=>e= .returned (.string ⟨l.toArray⟩)/\w'=w.drew.freeze ⟨g,0,none⟩ l.length:=by
 subst r;have q:l.length≠0:=by simpa using h0
 have s:w.drew.cell? ⟨b,1,none⟩=some (.slice (some ⟨g,0,none⟩) l.length cap):=by
   have:w.drew.heap[b]?=some (.cells #[p,.slice (some ⟨g,0,none⟩) l.length cap] T (0,0)):=hb;rw[Lib.cell_of_heap this];rfl
 have a:w.drew.heap[g]?=some (.cells cur 5 fr):=o;have i:(Builtin.unsafeSliceData_ #[96] 159 #[.slice (some ⟨g,0,none⟩) l.length cap]).run prog w.drew= .ok (.pointer (some ⟨g,0,none⟩)) w.drew:=
   Lib.run_unsafeSliceData_row _ _ _ _ _ _ AQ
 have k:(Builtin.unsafeString_ #[159,3] 9 #[.pointer (some ⟨g,0,none⟩),.int .i64 l.length]).run prog w.drew= .ok (.string ⟨l.toArray⟩) (w.drew.freeze ⟨g,0,none⟩ l.length):=by
   refine Lib.run_unsafeString_row w.drew 159 3 9 5 underlying159 AX g cur.size (by simp[World.shape?,a]) l h0 AQ (by unfold maxLen at f;omega) ?_;intro j x hx;have Dv:=(Bn.1 hx).1;rw[Addr.add_lit];simp only[World.cell?,a,B4];exact D5 j x hx
 have Bp1:=mixed
 go_enter func31,ntmps31
 go_wp2
 go_region_o
 all_goals (go_wp2;go_ret;exact ⟨rfl,rfl⟩)
theorem Agx(b)(p)(T)(w)(hb:w.heap[b]?=some (.cells #[p,.slice none 0 0] T (0,0))):
   Calls prog 31 #[.pointer (some ⟨b,0,none⟩)] w λ e w'=>e= .returned (.string ⟨#[]⟩)/\w'=w.drew:=by
 have g:w.drew.cell? ⟨b,1,none⟩=some (.slice none 0 0):=by
   have:w.drew.heap[b]?=some (.cells #[p,.slice none 0 0] T (0,0)):=hb;rw[Lib.cell_of_heap this];rfl
 have a:(Builtin.unsafeSliceData_ #[96] 159 #[.slice none 0 0]).run prog w.drew= .ok (.pointer none) w.drew:=Lib.run_unsafeSliceData_nil _ _ _ _ _;have f:(Builtin.unsafeString_ #[159,3] 9 #[.pointer none,.int .i64 0]).run prog w.drew= .ok (.string .empty) w.drew:=Lib.run_unsafeString_none _ _ _ _ _;have Bp1:=mixed
 go_enter func31,ntmps31
 go_wp2
 go_region_o
 all_goals (go_wp2;go_ret;exact ⟨rfl,rfl⟩)
theorem Ar1{h}{x}{T}(a:get h base=some (.box [.ptr base 0,x] T)):C4 prog 62 [.ptr base 0] h λ h' r=>h'=h/\r= .Em []:=
 WN Ap5 a Zw
theorem Am0:C4 prog 62 [.ptr base 0] [(base,.box [.np,.cl []] 98)] λ h' r=>h'=[(base,.box [.ptr base 0,.cl []] 98)]/\r= .Em []:=
 U8 (x:= .np) Ap5 AV Yr
theorem Au7{T}{l}{i}(f:l≠[]):C4 prog 31 [.ptr base 0] [(base,.box [i,.ref (base+1) 0 l.length l.length] T),(base+1,.arr 5 1 (Gz l))]
     λ h' r=>h'=[(base,.box [i,.ref (base+1) 0 l.length l.length] T),(base+1,.Om 1 (Gz l))]/\r= .p (.str l):=
 Afq Apb f λ b g n cap p cur T w j hb o m k a e D5=>Bbh b g n cap p l cur T w j hb o f m k a e D5
theorem Aqy{T}(a:T≠0):C4 prog 31 [.ptr base 0] [(base,.box [.np,.cl []] T)] λ h' r=>h'=[(base,.box [.np,.cl []] T)]/\r= .p (.str []):=
 WM Apb a Agx
end Go.Am
end
noncomputable section
namespace Go.Am
open Go Go.Proofs
open Go.IntKind (i64)
open Tryz
set_option maxRecDepth 100000
set_option linter.unusedVariables false
set_option linter.unusedSimpArgs false
set_option maxHeartbeats 2000000
theorem Bhe(l s):Gz (l++s)=Gz l++Gz s:=by simp[Gz]
theorem Br3(s):P0 1 (Gz s):=by simp[P0,Gz]
theorem Bx0:P0 1 []:=by simp[P0]
theorem Aly(s)(b:s≠[])(e:s.length<=1000000000):C4 prog 29 [.ptr 1000000 0,.p (.str s)] [(1000000,.box [.np,.cl []] 98)]
   λ h r=>h=[(1000000,.box [.ptr 1000000 0,rD 0 s] 98),(0,.arr 5 1 (Gz s))]/\r= .Em [iD s.length,.bad]:=by
 refine Dw func29 rfl Apd (by simp[Tryz.f29]) ?_;have a:Gz s≠[]:=by simpa [Gz] using b
 simp only[go_sem];refine Cq Am0 ?_;simp only[go_sem,J8,a];refine ⟨⟨Br3 s,Bx0,AQ⟩,DL ?_⟩;simp only[go_sem,J8]
theorem Aqv(l s)(a:l.length+s.length<=1000000000):C4 prog 29 [.ptr 1000000 0,.p (.str s)] [(1000000,.box [.ptr 1000000 0,rD 1000001 l] 98),(1000001,.arr 5 1 (Gz l))]
   λ h r=>h=[(1000000,.box [.ptr 1000000 0,.ref 1000001 0 (l++s).length (l++s).length] 98),(1000001,.arr 5 1 (Gz (l++s)))]/\r= .Em [iD s.length,.bad]:=by
 refine Dw func29 rfl Apd (by simp[Tryz.f29]) ?_;simp only[go_sem];refine Cq (Ar1 rfl) ?_;simp only[go_sem,J8];refine ⟨⟨Br3 s,AQ⟩,?_⟩;simp only[<-Bhe,J8];refine DL ?_;simp only[go_sem,J8]
end Go.Am
end
noncomputable section
namespace Go.Am
open Go
open Go Go.Proofs
open Go.IntKind (i64)
open Tryz
set_option maxRecDepth 100000
set_option linter.unusedVariables false
set_option linter.unusedSimpArgs false
set_option maxHeartbeats 2000000
section
variable {P:AK} {c:Ctx} {a:Act} {w:AI} {M:Nat->Mb}
def Afe:Hp->List (Bool×D)->(Ah->Hp->Prop)->Prop
 | h,[],k=>k [] h
 | h,(true,d)::r,k=>HM h d λ x f=>Afe f r λ e b=>k (x::e) b
 | h,(false,d)::r,k=>Afe h r λ e b=>k (d::e) b
theorem Afd:∀(ds:List (Bool×D)) {st:St} {F:Nat->Prop} (vs:At),Rel c st a w F M->Np F w M (sg st.hp) (ds.map (·.2)) vs->∀{k:Ah->Hp->Prop},Afe st.hp ds k->
   ∃YG h' F',k YG h'/\Rel c {st with hp:=h'} a w F' M/\(∀b,F b->F' b)/\sg h'=sg st.hp/\Np F' w M (sg h') YG vs
 | [],st,F,vs,o,g,k,h=>by
   simp only[Afe] at h;exact ⟨[],st.hp,F,h,o,λ _ h=>h,rfl,g⟩
 | (b,d)::ds,st,F,vs,o,g,k,h=>by
   cases vs with
   | nil=>have:=g.1;simp at this
   | cons v vs=>
     have m:DR F w M (sg st.hp) d v:=by simpa [List.getD] using g.2 0 d rfl
     obtain ⟨x,f,F1,z,KI,j,n,hx⟩:∃x f F1,(Afe f ds λ r q=>k (x::r) q)/\Rel c {st with hp:=f} a w F1 M/\(∀b,F b->F1 b)/\sg f=sg st.hp/\DR F1 w M (sg f) x v:=by
       cases b with
       | false=>exact ⟨d,st.hp,F,by simpa only[Afe] using h,o,λ _ h=>h,rfl,m⟩
       | true=>exact RN d o m (by simpa only[Afe] using h)
     have Sr:Np F1 w M (sg f) (ds.map (·.2)) vs:=by
       refine ⟨by have:=g.1;simpa using this,λ i e u=>?_⟩;have:=g.2 (i+1) e (by simpa using u);rw[n];have s:DR F w M (sg st.hp) e (vs.getD i undef):=by simpa [List.getD] using this
       exact s.keep (λ _ _=>rfl) j (Eb.refl _ _)
     obtain ⟨r,h2,F2,Sp,JH,l,VD,Kl⟩:=Afd ds (st:={st with hp:=f}) vs KI Sr z;refine ⟨x::r,h2,F2,Sp,JH,λ b hb=>l b (j b hb),VD.trans n,by have:=Kl.1;simpa using this,λ i y p=>?_⟩;cases i with
     | zero=>
       simp only[BF,Bo] at p;subst p;have t:=hx.keep (w':=w) (λ _ _=>rfl) l (Eb.refl M (sg f));rw[VD]
       simpa [List.getD] using t
     | succ i=>simp only[List.getElem?_cons_succ] at p;simpa [List.getD] using Kl.2 i y p
end
theorem C4.Bd4{P}{f}{args}{h}{R R':Hp->D->Prop}(s:C4 P f args h R)
   (hR:∀h' r,R h' r->∃q:List (Bool×D),r= .agg (q.map (·.2))/\Afe h' q λ ds h2=>Sj (h.map (·.1)) h2 (.agg ds) R'):C4 P f args h R':=by
 intro H w F M Qv Uw XH u;refine (s H w F M Qv Uw XH u).mono ?_;rintro e k ⟨v,h',r,F',M',rfl,z,XV,YF,x⟩;obtain ⟨q,rfl,hb⟩:=hR h' r z;have Al6:Rel ⟨w,F,Ht M h,M,sg h⟩ ⟨[],h',0⟩ ⟨#[],[]⟩ k F' M':=⟨λ t d B=>by simp[get] at B,rfl,rfl,XV,x⟩;cases YF with
 | agg _ j y a=>
   obtain ⟨ds,h2,F2,Sp,XJ,_,_,JT⟩:=Afd q j.toList Al6 ⟨by simpa using y,λ i e g=>by have:=a i e g;simpa [List.getD,Array.getD_eq_getD_getElem?] using this⟩ hb;have b:DR F2 k M' (sg h2) (.agg ds) _:= .agg _ j (by have:=JT.1;simpa using this) (λ i e g=>by have:=JT.2 i e g;simpa [List.getD,Array.getD_eq_getD_getElem?] using this);obtain ⟨l,E,M2,m,n,o,p⟩:=Oa XJ rfl (λ _=>Iff.rfl) b Sp;exact ⟨_,l,E,F2,M2,rfl,m,n,o,p⟩
theorem Nq{P}{ops rest}{k}{dst}{st b Lt}{h}{T}{f}{ds}{i}{o}(j:Wk b Lt)(e:Do P true ops rest k o Lt):
   Cc P true ops rest k dst st h T f ds i (Sm P true ops rest k o b):=by
 refine .inr ⟨rfl,λ c a w F M Q g=>?_⟩;obtain ⟨F1,M1,KI⟩:=j c a w F M g;exact YK KI e Q
section
variable {c:Ctx} {st:St} {a:Act} {w:AI} {F:Nat->Prop} {M:Nat->Mb}
theorem Rel.Blv(m:Rel c st a w F M){q sz n:Nat}{o:AO}(l:get st.hp q=some o)(k:o.sg= .arr sz n):
   Rel c ⟨st.env,Dq st.hp q (.Ik (Gm (.arr sz (n+1)))),st.n⟩ a w F M:=by
 have Ds:∀j,get (Dq st.hp q (.Ik (Gm (.arr sz (n+1))))) j=if j=q then some (.Ik (Gm (.arr sz (n+1)))) else get st.hp j:=DJ _ _ _
 have g:sg st.hp q=some (.arr sz n):=by rw[DU l,k]
 have Wl:sg (Dq st.hp q (.Ik (Gm (.arr sz (n+1))))) q=some (.arr sz (n+1)):=by rw[Ef Ds,if_pos rfl];rfl
 refine m.change (M':=M) Ds (λ _ _=>rfl) ⟨λ j e=>?_,λ j r i e=>?_,λ j r i p e=>?_⟩ rfl rfl rfl (Bk _) (λ _ _ _=>rfl) trivial (λ b hb=>hb.elim)
 . have f:j≠q:=λ f=>by rw[f,g] at e;cases e
   rw[Ef Ds,if_neg f];exact ⟨e,rfl⟩
 . by_cases f:j=q
   . subst f;rw[g] at e;cases e;exact ⟨n+1,Wl,AQ,λ h=>AQ⟩
   . rw[Ef Ds,if_neg f];exact ⟨i,e,Bk _,λ _=>rfl⟩
 . have f:j≠q:=λ f=>by rw[f,g] at e;cases e
   rw[Ef Ds,if_neg f];exact ⟨i,p,e,Bk _,Bk _,λ _=>⟨rfl,rfl⟩,λ _=>rfl⟩
theorem Wk.Avo{q sz:Nat}{e:AG}{es:Ae}(b:get st.hp q=some (.arr e sz es)):Wk st ⟨st.env,Dq st.hp q (.Ik (Gm (.arr sz (es.length+1)))),st.n⟩:=
 λ _ _ _ F M f=>⟨F,M,f.Blv b rfl⟩
theorem Wk.Abi{q sz:Nat}{es:Ae}(b:get st.hp q=some (.Om sz es)):Wk st ⟨st.env,Dq st.hp q (.Ik (Gm (.arr sz (es.length+1)))),st.n⟩:=
 λ _ _ _ F M e=>⟨F,M,e.Blv b rfl⟩
end
section
variable {c:Ctx} {st:St} {a:Act} {w:AI} {F:Nat->Prop} {M:Nat->Mb}
theorem Rel.Boa(z:Rel c st a w F M){id q sz k:Nat}{t e:AG}{rows:Ay}(B:get st.hp id=some (.Fi t e sz k rows none))(hq:get st.hp q=none):
   ∃F' M',Rel c ⟨st.env,(q,.arr t 1 (rows.map λ r=>[.sl r]))::Dq st.hp id (.Ik (Gm (.Fi sz rows.length k))),st.n⟩ a w F' M'/\(∀b,F b->F' b)/\
     Eb M M' (sg st.hp) (sg ((q,.arr t 1 (rows.map λ r=>[.sl r]))::Dq st.hp id (.Ik (Gm (.Fi sz rows.length k)))))/\
     ∀v,DR F w M (sg st.hp) (.E8 id rows.length) v->DR F' w M' (sg ((q,.arr t 1 (rows.map λ r=>[.sl r]))::Dq st.hp id (.Ik (Gm (.Fi sz rows.length k))))) (.ref q 0 rows.length rows.length) v:=by
 have Q:M4 F w (M id) t e sz rows none:=z.heap.obj id _ B;have EH:id≠q:=λ h=>by subst h;rw[hq] at B;cases B
 generalize S:((q,.arr t 1 (rows.map λ r=>[.sl r]))::Dq st.hp id (.Ik (Gm (.Fi sz rows.length k))):Hp)=I;have Ds:∀j,get I j=if j=q then some (.arr t 1 (rows.map λ r=>[.sl r])) else if j=id then some (.Ik (Gm (.Fi sz rows.length k))) else get st.hp j:=by
   intro j;rw[<-S,Dk,DJ];by_cases g:q=j
   . subst g;simp
   . rw[if_neg g,if_neg (CL g)]
 have N:∀j,j≠q->I5 M q ⟨(M id).Fu,(M id).cap,[]⟩ j=M j:=λ j f=>by simp[I5,f]
 have Mr:I5 M q ⟨(M id).Fu,(M id).cap,[]⟩ q=⟨(M id).Fu,(M id).cap,[]⟩:=by simp[I5]
 have UZ:sg (Dq st.hp id (.Ik (Gm (.Fi sz rows.length k))))=sg st.hp:=GD (DJ _ _ _) B rfl;have Y:get (Dq st.hp id (.Ik (Gm (.Fi sz rows.length k)))) q=none:=by rw[DJ,if_neg (CL EH)];exact hq
 have Lb:Eb M (I5 M q ⟨(M id).Fu,(M id).cap,[]⟩) (sg st.hp) (sg I):=by
   rw[<-UZ,<-S];exact Ji (RA _ _ _) N Y
 have Z:sg I q=some (.arr 1 rows.length):=by simp[sg,Ds,AO.sg]
 have OZ:∀b,F b->(F b∨∃(i:Nat) (E:Nat×Nat),(M id).xs[i]?=some E/\E.2≠0/\b=E.1):=λ b h=> .inl h;refine ⟨λ b=>F b∨∃(i:Nat) (E:Nat×Nat),(M id).xs[i]?=some E/\E.2≠0/\b=E.1,I5 M q ⟨(M id).Fu,(M id).cap,[]⟩,?_,OZ,Lb,?_⟩
 . constructor
   . intro s d T;exact (z.env s d T).keep (λ _ _=>rfl) OZ Lb
   . exact z.size
   . exact z.defers
   . constructor
     . intro j o f;rw[Ds] at f;by_cases p:j=q
       . subst p;rw[if_pos rfl] at f;cases f;rw[Mr];refine ⟨AQ,by simpa using Q.le,Q.max,λ i x hx=>?_,λ hc=>?_⟩
         . rw[BC] at hx;cases JH:rows[i]? with
           | none=>rw[JH] at hx;cases hx
           | some r=>rw[JH] at hx;cases hx;rfl
         . obtain ⟨h5,row,h6,h7,h8⟩:=Q.outer hc;refine ⟨?_,row,.of0 h6,by simpa using h7,λ i x j2 y hx hy=>?_⟩
           . rintro (h | ⟨i,E,hx,XS,he⟩)
             . exact h5 h
             . exact Q.out i E hx XS hc he.symm
           . rw[BC] at hx;cases JH:rows[i]? with
             | none=>rw[JH] at hx;cases hx
             | some r=>
               rw[JH] at hx;cases hx;cases j2 with
               | succ j2=>simp at hy
               | zero=>
                 simp only[BF,Bo] at hy;subst hy;have hi:=(Bn.1 JH).1;have K:i<(M id).xs.length:=by rw[Q.xl];exact hi
                 obtain ⟨ad,h9,n8⟩:=h8 i r _ JH (Bp K) AT;rw[Nat.mul_one,B8,h9];exact (Q.rows i r _ JH (Bp K) AT).pure OZ (λ XS=> .inr ⟨i,_,Bp K,XS,rfl⟩) n8
       . rw[if_neg p] at f;rw[N j p];by_cases g:j=id
         . rw[if_pos g] at f;cases f;trivial
         . rw[if_neg g] at f;refine (z.heap.obj j o f).keep (λ _ _=>rfl) OZ Lb (λ b DE=>⟨rfl,?_⟩);rintro (h | h)
           . exact z.heap.PI ⟨j,o,f,DE⟩ h
           . exact g (z.heap.inj j o id _ b f B DE (.inr h))
     . intro j o H o2 b f I7 DE FI;rw[Ds] at f I7;by_cases p:j=q
       . rw[if_pos p] at f;cases f;rw[p,Mr] at DE;by_cases l:H=q
         . rw[p,l]
         . rw[if_neg l] at I7;by_cases g:H=id
           . rw[if_pos g] at I7;cases I7;exact FI.elim
           . rw[if_neg g] at I7;rw[N H l] at FI;exact (g (z.heap.inj H o2 id _ b I7 B FI (.inl DE))).elim
       . rw[if_neg p] at f;rw[N j p] at DE;by_cases g:j=id
         . rw[if_pos g] at f;cases f;exact DE.elim
         . rw[if_neg g] at f;by_cases l:H=q
           . rw[if_pos l] at I7;cases I7;rw[l,Mr] at FI;exact (g (z.heap.inj j o id _ b f B DE (.inl FI))).elim
           . rw[if_neg l] at I7;rw[N H l] at FI;by_cases R:H=id
             . rw[if_pos R] at I7;cases I7;exact FI.elim
             . rw[if_neg R] at I7;exact z.heap.inj j o H o2 b f I7 DE FI
   . have u:=z.keep;refine ⟨u.os,u.tape,u.output,u.size,u.Up,λ b h=> .inl (u.F0 b h),?_,?_,?_,u.sgk.trans Lb,u.s0b⟩
     . rintro b (h | h)
       . exact u.Fn b h
       . rcases u.own _ ⟨id,_,B,.inr h⟩ with W | W
         . exact .inr (.inl W)
         . exact .inr (.inr W)
     . rintro b (h | h)
       . exact u.Fl b h
       . exact z.heap.lt ⟨id,_,B,.inr h⟩
     . rintro b ⟨j,o,f,DE⟩;rw[Ds] at f;by_cases p:j=q
       . rw[if_pos p] at f;cases f;rw[p,Mr] at DE;exact u.own _ ⟨id,_,B,.inl DE⟩
       . rw[if_neg p] at f;rw[N j p] at DE;by_cases g:j=id
         . rw[if_pos g] at f;cases f;exact DE.elim
         . rw[if_neg g] at f;exact u.own _ ⟨j,o,f,DE⟩
 . intro v hv;cases hv with
   | E8 _ _ ZW m k2 _ T hN hv h2=>
     rw[DU B] at T;simp only[AO.sg,Bo,Sg.Fi.injEq] at T;obtain ⟨rfl,rfl,rfl⟩:=T;obtain ⟨ad,cp,h3,_⟩:=hv;refine .ref q 0 _ _ 1 _ v Z (Bk _) ⟨_,_,_,h3⟩ (λ _=>?_);obtain ⟨U,V,g1,g2,g3,g4,g5⟩:=h2 rfl;exact ⟨U,V,g1,g2,g3,by rw[Mr];exact g4,by rw[Mr];exact g5⟩
end
theorem C4.wk{P}{f}{args}{h}{R R':Hp->D->Prop}(g:C4 P f args h R)(hR:∀h' r,R h' r->∃h2,Wk ⟨[(0,r)],h',1⟩ ⟨[(0,r)],h2,1⟩/\R' h2 r):C4 P f args h R':=by
 intro l w F M Qv Uw XH i;refine (g l w F M Qv Uw XH i).mono ?_;rintro e m ⟨v,h',r,F',M',rfl,k,XV,YF,j⟩;obtain ⟨h2,Rx,JH⟩:=hR h' r k;have Al6:Rel ⟨w,F,Ht M h,M,sg h⟩ ⟨[(0,r)],h',1⟩ ⟨#[v],[]⟩ m F' M':=⟨λ t d a=>by
   simp only[Dk] at a;split at a
   . rename_i b;cases a;subst b;simpa using YF
   . simp[get] at a,rfl,rfl,XV,j⟩
 obtain ⟨F2,M2,XJ⟩:=Rx _ _ _ _ _ Al6;refine ⟨v,h2,r,F2,M2,rfl,JH,XJ.heap,?_,XJ.keep⟩;have:=XJ.env 0 r (by simp[Dk])
 simpa using this
theorem Wk.Ajg{st}{id j}{cs}{ty}{es}(hb:get st.hp id=some (.box cs ty))(l:cs[j]?=some (.cl es)):Wk st ⟨st.env,Dq st.hp id (.box (cs.set j (sD es)) ty),st.n⟩:=by
 intro c a w F M q;have Ds:∀i,get (Dq st.hp id (.box (cs.set j (sD es)) ty)) i=if i=id then some (.box (cs.set j (sD es)) ty) else get st.hp i:=DJ _ _ _
 have Lz:=GD Ds hb rfl;obtain ⟨Wm,row,t,El,HO,D5⟩:=q.heap.obj id _ hb;refine ⟨F,M,?_⟩;refine q.change Ds (λ _ _=>rfl) (by rw[Lz];exact Eb.refl _ _) rfl rfl rfl (Bk _) (λ _ _ _=>rfl) ?_ (λ b g=> .inl ⟨_,hb,g⟩);refine ⟨Wm,row,t,El,by simpa using HO,λ i d f=>?_,λ r s i k=>?_⟩;rotate_left
 . refine D5.2 r ?_ i ?_
   . obtain ⟨x,hx,o⟩:=Cb.1 s;rcases List.mem_or_eq_of_mem_set hx with u | rfl
     . exact Cb.2 ⟨x,u,o⟩
     . cases o
   . by_cases e:i=j
     . subst e;rw[CH (Bn.1 l).1] at k;cases k
     . rwa[List.getElem?_set_ne (CL e)] at k
 rw[Lz];by_cases e:i=j
 . subst e;have Dv:=(Bn.1 l).1;rw[CH Dv] at f;cases f;have h2:=D5.1 i _ l;refine ⟨?_,h2.2⟩;have m:=h2.1;generalize row.getD i undef=v at m;cases m with | cl _ y h _=>exact .p h
 . rw[List.getElem?_set_ne (CL e)] at f;exact D5.1 i d f
theorem C4.Bjs{P}{f}{args}{m sz k}{b t e}{es rows}{rws}
   (a:C4 P f args [] λ h' d=>∃j:Nat,h'=[(0,.arr b k es),(1,.Fi t e sz j rws none)]/\d= .agg [.ref 0 0 m m,.E8 1 rws.length]) (Adr:rws.map (λ r=>[Pd.sl r])=rows):
   C4 P f args [] λ h' d=>h'=[(0,.arr b k es),(1,.arr t 1 rows)]/\d= .agg [.ref 0 0 m m,rD 1 rws]:=by
 subst Adr;intro K w F M Qv Uw XH z;refine (a K w F M Qv Uw XH z).mono ?_;rintro Q o ⟨v,h',r,F',M',rfl,⟨j,rfl,rfl⟩,XV,YF,B⟩;have Al6:Rel ⟨w,F,Ht M [],M,sg []⟩ ⟨[],[(0,.arr b k es),(1,.Fi t e sz j rws none)],0⟩ ⟨#[],[]⟩ o F' M':=⟨λ t d H=>by simp[get] at H,rfl,rfl,XV,B⟩;obtain ⟨F2,M2,XJ,l,Bze,n⟩:=Al6.Boa (id:=1) (q:=2) (by rfl) (by rfl);have JT:DR F2 o M2 (sg ((2,.arr t 1 (rws.map λ r=>[.sl r]))::Dq [(0,.arr b k es),(1,.Fi t e sz j rws none)] 1 (.Ik (Gm (.Fi sz rws.length j))))) (.agg [.ref 0 0 m m,rD 2 rws]) v:=by
   cases YF with
   | agg _ N E g=>
     refine .agg _ _ E (λ i c a=>?_)
     match i,a with
     | 0,a=>cases a;exact (g 0 _ rfl).keep (λ _ _=>rfl) l Bze
     | 1,a=>cases a;exact n _ (g 1 _ rfl)
     | i+2,a=>simp at a
 obtain ⟨p,I,M3,s,u,x,y⟩:=Oa (R:=λ h' d=>h'=[(0,.arr b k es),(1,.arr t 1 (rws.map λ r=>[Pd.sl r]))]/\d= .agg [.ref 0 0 m m,rD 1 rws]) XJ (h0:=[]) rfl (λ _=>Iff.rfl) JT (by
   simp[Sj,Dq,F3,Ii,MQ,Wo,ghost,D.ids,Fe,AO.ids,sub,idx,get,D.GB,AO.GB,base,pick,UW,Nd,List.filter])
 exact ⟨v,p,I,F2,M3,rfl,s,u,x,y⟩
end Go.Am
end
noncomputable section
namespace Go.Am
open Go Go.Proofs
open Go.IntKind (i64)
open Tryz
set_option maxRecDepth 100000
set_option linter.unusedVariables false
set_option linter.unusedSimpArgs false
set_option maxHeartbeats 2000000
theorem A9{p:Prop}(h:p:=by simp[ZF,CT]):p:=h
theorem Ber(l)(x)(o:l.length<=10000000):
   C4 prog 18 [sD (CT l),iD x] [] λ h r=>h=[]/\r=bD (decide (x∈l)):=by
 refine Dw func18 rfl Aed (by simp[Tryz.f18]) ?_;simp only[go_sem,C1];refine Dm (λ i=>⟨[(0,.p (.sl (CT l))),(1,.p (.int .i64 x)),(5,.p (.int .i64 (i:Nat)))],[],18⟩) (λ i=>i<=l.length/\x∉l.take i) (λ i=>l.length - i) 0 ⟨BO _,AT⟩ (Wk.forget A9) ?_;rintro i n ⟨m,b⟩ k;simp only[go_sem,C1];refine D2 (λ h2=>?_) (λ h2=>?_)
 . have Dv:i<l.length:=by simp at h2;omega
   have j:=DG i AQ;have f:=Fs l i Dv;have hx:l[i]?=some (l.getD i 0):=by simp[List.getD,Dv]
   have FC:(0:Int)<=(i:Int)/\(i:Int)<(l.length:Int):=AQ;have JP:=IF l i 0 Dv;generalize l.getD i 0=y at*;simp only[go_sem,C1,Be,f,FC];cases a:decide (y=x)
   . simp only[go_sem,a,j];refine k (i+1) _ ⟨Dv,?_⟩ AQ ?_
     . rw[List.take_add_one,hx];have:¬x=y:=λ e=>Bh a e.symm;simp[b,this]
     . (refine Wk.forget ?_;simp[ZF,CT];done)
   . simp only[go_sem,a];have g:x∈l:=by rw[<-Bg a];exact JP
     simp[g]
 . simp only[go_sem];have:i=l.length:=by simp at h2;omega
   subst this;rw[BE] at b;simp[b]
theorem Bkf(l)(x)(o:l.length<=10000000):
   C4 prog 18 [rD 1000000 l,iD x] [(1000000,.arr 3 1 (CT l))] λ h r=>h=[(1000000,.arr 3 1 (CT l))]/\r=bD (decide (x∈l)):=by
 refine Dw func18 rfl Aed (by simp[Tryz.f18]) ?_;simp only[go_sem,C1];refine Dm (λ i=>⟨[(0,.ref 1000000 0 l.length l.length),(1,.p (.int .i64 x)),(5,.p (.int .i64 (i:Nat)))],[(1000000,.arr 3 1 (CT l))],18⟩) (λ i=>i<=l.length/\x∉l.take i) (λ i=>l.length - i) 0 ⟨BO _,AT⟩ (Wk.forget A9) ?_;rintro i n ⟨m,b⟩ k;simp only[go_sem,C1];refine D2 (λ h2=>?_) (λ h2=>?_)
 . have Dv:i<l.length:=by simp at h2;omega
   have j:=DG i AQ;have f:=Fs l i Dv;have hx:l[i]?=some (l.getD i 0):=by simp[List.getD,Dv]
   have FC:(0:Int)<=(i:Int)/\(i:Int)<(l.length:Int):=AQ;have JP:=IF l i 0 Dv;generalize l.getD i 0=y at*;simp only[go_sem,C1,Be,f,FC];cases a:decide (y=x)
   . simp only[go_sem,a,j];refine k (i+1) _ ⟨Dv,?_⟩ AQ ?_
     . rw[List.take_add_one,hx];have:¬x=y:=λ e=>Bh a e.symm;simp[b,this]
     . (refine Wk.forget ?_;simp[ZF,CT];done)
   . simp only[go_sem,a];have g:x∈l:=by rw[<-Bg a];exact JP
     simp[g]
 . simp only[go_sem];have:i=l.length:=by simp at h2;omega
   subst this;rw[BE] at b;simp[b]
theorem Axg(l)(x)(p:l.length<=10000000):
   C4 prog 34 [sD (CT l),iD x] [] λ h r=>h=[]/\r=sD (CT (Tt l x)):=by
 refine Dw func34 rfl Bgp (by simp[Tryz.f34]) ?_;simp only[go_sem,C1];refine Dm (λ q:Nat×Bool×Aa=>⟨[(0,sD (CT l)),(1,iD x),(5,rD 27 q.2.2),(6,bD q.2.1),(7,iD (q.1:Nat))],[(27,.arr 3 1 (CT q.2.2))],42⟩)
   (λ q=>q.1<=l.length/\q.2.2.length<=q.1+q.2.1.toNat/\q.2.2++(if q.2.1 then l.drop q.1 else Tt (l.drop q.1) x)=Tt l x) (λ q=>l.length - q.1) (0,false,[]) ⟨BO _,AT,AT⟩ ((Wk.nil (t:=5) (q:=27) (sz:=1) 3 rfl rfl AV).trans (Wk.forget A9)) ?_
 rintro ⟨i,m,acc⟩ n ⟨o,b,e⟩ k;simp only at o b e;simp only[go_sem,C1];refine D2 (λ h2=>?_) (λ h2=>?_)
 . have Dv:i<l.length:=by simp at h2;omega
   have j:=DG i AQ;have g:=Fs l i Dv;have FC:(0:Int)<=(i:Int)/\(i:Int)<(l.length:Int):=AQ;rw[Ic l i 0 Dv] at e;generalize l.getD i 0=y at*;cases m
   . cases f:decide (x<y)
     . have a:¬x<y:=Bh f;simp only[go_sem,C1,Be,g,FC,f,a];refine ⟨⟨Lr _ _ rfl,by simp at b;omega⟩,?_⟩;simp only[go_sem,j];refine k (i+1,false,acc++[y]) _ ⟨Dv,by simp at b ⊢;omega,?_⟩ A0 ?_
       . rw[<-e];simp[Tt,a]
       . (refine Wk.forget ?_;simp[ZF,L8,C1];done)
     . have a:x<y:=Bg f;simp only[go_sem,C1,Be,g,FC,f,a];refine ⟨⟨Lr _ _ rfl,by simp at b;omega⟩,⟨Lr _ _ rfl,by simp at b;simp[C1];omega⟩,?_⟩;simp only[go_sem,j];refine k (i+1,true,acc++[x]++[y]) _ ⟨Dv,by simp at b ⊢;omega,?_⟩ A0 ?_
       . rw[<-e];simp[Tt,a]
       . (refine Wk.forget ?_;simp[ZF,CT];done)
   . simp only[go_sem,C1,Be,g,FC];refine ⟨⟨Lr _ _ rfl,by simp at b;omega⟩,?_⟩;simp only[go_sem,j];refine k (i+1,true,acc++[y]) _ ⟨Dv,by simp at b ⊢;omega,?_⟩ A0 ?_
     . rw[<-e];simp
     . (refine Wk.forget ?_;simp[ZF,L8,C1];done)
 . have:i=l.length:=by simp at h2;omega
   subst this;rw[List.drop_length] at e;cases m
   . simp only[go_sem,C1];refine ⟨⟨Lr _ _ rfl,by simp at b;omega⟩,?_⟩;refine Dt ?_;simp only[go_sem];rw[<-e];(try rw[Bx (by simp[C1])]);simp[Tt,CT]
   . simp only[go_sem];refine Dt ?_;simp only[go_sem];rw[<-e];simp[Uz,C1]
def To(a i:Nat)(l:Aa)(k:Nat):Prop:=0<=l.getD k 0/\l.getD k 0<(a:Int)/\l.getD k 0≠(i:Int)/\(0<k->l.getD (k - 1) 0<l.getD k 0)
instance (nb i:Nat) (l:Aa) (k:Nat):Decidable (To nb i l k):=by unfold To;exact inferInstance
def UU(a i:Nat)(l:Aa):Prop:=∀k,k<l.length->To a i l k
instance (nb i:Nat) (l:Aa):Decidable (UU nb i l):=by unfold UU;exact inferInstance
def PQ(g:Ab):Prop:=g.length<=24/\∀i,i<g.length->UU g.length i (g.getD i [])
instance (g:Ab):Decidable (PQ g):=by unfold PQ;exact inferInstance
def YW(g:Ab):Prop:=g.length<=10000000/\∀r∈g,r.length<=10000000
theorem NI(m)(h:m<9223372036854775807):i64.wrap (((m+1:Nat):Int) - 1)=(m:Int):=by rw[C6]<;>omega
theorem Awg(g)(N:YW g):C4 prog 109 [sD (DA g)] [] λ h r=>h=[]/\r=bD (decide (PQ g)):=by
 obtain ⟨Tw,B⟩:=N;refine Dw func109 rfl Aij (by simp[Tryz.f109]) ?_;simp only[go_sem,Du];refine D2 (λ x=>?_) (λ x=>?_)
 . simp only[go_sem];rw[Bj (λ a=>?_)];have:=a.1;simp at x;omega
 have hlen:g.length<=24:=by simp at x;omega
 simp only[go_sem];refine Dm (λ i:Nat=>⟨[(0,.p (.sl (DA g))),(3,.p (.int .i64 (i:Nat)))],[],60⟩) (λ i=>i<=g.length/\∀j,j<i->UU g.length j (g.getD j [])) (λ i=>g.length - i) 0 ⟨BO _,λ j q=>absurd q (B5 _)⟩ (Wk.forget (by simp[ZF])) ?_;rintro i n ⟨S,Adr⟩ R;simp only[go_sem,Du];refine D2 (λ h2=>?_) (λ h2=>?_);rotate_left
 . simp only[go_sem];have:i=g.length:=by simp at h2;omega
   subst this;rw[Bi ⟨hlen,Adr⟩]
 have Dv:i<g.length:=by simp at h2;omega
 have Q:=DG i AQ;have H:=B _ (IF g i [] Dv);have Rz:=QL g i Dv;have Nz:¬UU g.length i (g.getD i [])->decide (PQ g)=false:=λ h=>Bj (λ a=>h (a.2 i Dv));have Qs:UU g.length i (g.getD i [])->∀j,j<i+1->UU g.length j (g.getD j []):=λ h j q=>by
   rcases BK.1 q with s | rfl
   . exact Adr j s
   . exact h
 generalize g.getD i []=r at H Rz Nz Qs;have FC:(0:Int)<=(i:Int)/\(i:Int)<(g.length:Int):=AQ;simp only[go_sem];refine Dm (λ k:Nat=>⟨[(0,.p (.sl (DA g))),(3,.p (.int .i64 (i:Nat))),(4,.p (.int .i64 (k:Nat)))],[],60⟩) (λ k=>k<=r.length/\∀j,j<k->To g.length i r j) (λ k=>r.length - k) 0 ⟨BO _,λ j q=>absurd q (B5 _)⟩ (Wk.forget (by simp[ZF])) ?_;rintro k U ⟨T,R7⟩ Wi;simp only[go_sem,Du,C1,Be,Rz,FC];refine D2 (λ s=>?_) (λ s=>?_);rotate_left
 . have:k=r.length:=by simp at s;omega
   subst this;simp only[go_sem,Q];refine R (i+1) _ ⟨Dv,Qs R7⟩ AQ ?_
   (refine Wk.forget ?_;simp[ZF];done)
 have Uu:k<r.length:=by simp at s;omega
 have Rx:=DG k AQ;have U3:=Fs r k Uu;have Km:(0:Int)<=(k:Int)/\(k:Int)<(r.length:Int):=AQ;have PZ:To g.length i r k↔(0<=r.getD k 0/\r.getD k 0<(g.length:Int)/\r.getD k 0≠(i:Int)/\(0<k->r.getD (k - 1) 0<r.getD k 0)):=Iff.rfl;have EH:¬To g.length i r k->decide (PQ g)=false:=λ h=>Nz (λ a=>h (a k Uu));have Aog:To g.length i r k->∀j,j<k+1->To g.length i r j:=λ h j q=>by
   rcases BK.1 q with K | rfl
   . exact R7 j K
   . exact h
 rcases k with _ | m
 . have l:(0:Int)<(r.length:Int):=AQ;have I:i64.wrap (0+1)=1:=rfl;generalize r.getD 0 0=y at U3 PZ;cases b:decide (y<0);rotate_left
   . simp only[go_sem,Du,C1,Be,Rz,FC,U3,l,b];rw[EH (λ a=>by have:=PZ.1 a;simp at b;omega)]
   cases e:decide ((g.length:Int)<=y);rotate_left
   . simp only[go_sem,Du,C1,Be,Rz,FC,U3,l,b,e];rw[EH (λ a=>by have:=PZ.1 a;simp at e;omega)]
   cases f:decide (y=(i:Int));rotate_left
   . simp only[go_sem,Du,C1,Be,Rz,FC,U3,l,b,e,f];rw[EH (λ a=>by have:=PZ.1 a;simp at f;omega)]
   simp only[go_sem,Du,C1,Be,Rz,FC,U3,l,b,e,f,I];refine Wi (0+1) _ ⟨Uu,Aog (PZ.2 (by simp at b e f;exact ⟨AQ,AQ,f,λ h=>absurd h (Nat.lt_irrefl _)⟩))⟩ AQ ?_
   (refine Wk.forget ?_;simp[ZF];done)
 . have E:m<r.length:=AQ;have o:=Fs r m E;have u:(0:Int)<=(m:Int)/\(m:Int)<(r.length:Int):=AQ;have v:=NI m AQ;have t:(0:Int)<((m+1:Nat):Int):=AQ;rw[show m+1 - 1=m from rfl] at PZ;generalize r.getD (m+1) 0=y at U3 PZ;generalize r.getD m 0=z at o PZ;cases b:decide (y<0);rotate_left
   . simp only[go_sem,Du,C1,Be,Rz,FC,U3,Km,b];rw[EH (λ a=>by have:=PZ.1 a;simp at b;omega)]
   cases e:decide ((g.length:Int)<=y);rotate_left
   . simp only[go_sem,Du,C1,Be,Rz,FC,U3,Km,b,e];rw[EH (λ a=>by have:=PZ.1 a;simp at e;omega)]
   cases f:decide (y=(i:Int));rotate_left
   . simp only[go_sem,Du,C1,Be,Rz,FC,U3,Km,b,e,f];rw[EH (λ a=>by have:=PZ.1 a;simp at f;omega)]
   cases w:decide (y<=z);rotate_left
   . simp only[go_sem,Du,C1,Be,Rz,FC,U3,Km,o,u,v,t,b,e,f,w];rw[EH (λ a=>by have:=(PZ.1 a).2.2.2 AQ;simp at w;omega)]
   simp only[go_sem,Du,C1,Be,Rz,FC,U3,Km,o,u,v,t,b,e,f,w,Rx];refine Wi (m+1+1) _ ⟨Uu,Aog (PZ.2 (by simp at b e f w;exact ⟨AQ,AQ,f,λ _=>AQ⟩))⟩ AQ ?_
   (refine Wk.forget ?_;simp[ZF];done)
def xyP(b:Blk):Prop:=-9999<=b.x/\b.x<=9999/\-9999<=b.y/\b.y<=9999
instance (b:Blk):Decidable (xyP b):=by unfold xyP;exact inferInstance
def NC(n:Nt):Prop:=1<=n.blocks.length/\n.blocks.length<=24/\n.next.length=n.blocks.length/\∀i,i<n.blocks.length->xyP (n.blocks.getD i T8)/\(n.next.getD i []).length<=4/\UU n.blocks.length i (n.next.getD i [])
instance (n:Nt):Decidable (NC n):=by unfold NC;exact inferInstance
theorem Bbi(n)(hb:n.blocks.length<=10000000)(hg:YW n.next):C4 prog 63 [.agg n.cs] [] λ h r=>h=[]/\r=bD (decide (NC n)):=by
 obtain ⟨Tw,T⟩:=hg;obtain ⟨a,o,Z,Y,Q,I,K,N⟩:=n;simp only at hb Tw T;refine Dw func63 rfl Bg2 (by simp[Tryz.f63]) ?_;cases v:decide ((a.length:Int)<1);rotate_left
 . simp only[go_sem,Nt.cs,DB,Du,v];rw[Bj (λ e=>by have:=e.1;have hd:=Bg v;simp only at this;omega)]
 cases E:decide (24<(a.length:Int));rotate_left
 . simp only[go_sem,Nt.cs,DB,Du,v,E];rw[Bj (λ e=>by have:=e.2.1;simp at E;simp only at this;omega)]
 cases R:decide ((o.length:Int)=(a.length:Int))
 . simp only[go_sem,Nt.cs,DB,Du,v,E,R];rw[Bj (λ e=>by have:=e.2.2.1;have hd:=Bh R;simp only at this;omega)]
 have a0:1<=a.length:=by have:=Bh v;omega
 have a1:a.length<=24:=by have:=Bh E;omega
 have a2:o.length=a.length:=by have:=Bg R;omega
 simp only[go_sem,Nt.cs,DB,Du,v,E,R];clear v E R;refine Dm (λ i:Nat=>⟨[(1,.ptr 1 0),(3,.p (.int .i64 (i:Nat)))],[(1,.box (Nt.cs ⟨a,o,Z,Y,Q,I,K,N⟩))],114⟩) (λ i=>i<=a.length/\∀j,j<i->xyP (a.getD j T8)/\(o.getD j []).length<=4/\UU a.length j (o.getD j [])) (λ i=>a.length - i) 0 ⟨BO _,λ j B=>absurd B (B5 _)⟩ (Wk.forget (by simp[ZF,Nt.cs])) ?_;rintro i n ⟨hi,Adr⟩ ih;simp only[go_sem,Nt.cs,DB];refine D2 (λ h2=>?_) (λ h2=>?_);rotate_left
 . simp only[go_sem];have:i=a.length:=by simp at h2;omega
   subst this;rw[Bi ⟨a0,a1,a2,Adr⟩]
 have Dv:i<a.length:=by simp at h2;omega
 have hw:=DG i AQ;have a5:=T _ (IF o i [] AQ);have Rz:=QL o i AQ;have q:=Apk a i Dv;have u:¬(xyP (a.getD i T8)/\(o.getD i []).length<=4/\UU a.length i (o.getD i []))->decide (NC ⟨a,o,Z,Y,Q,I,K,N⟩)=false:=λ h=>Bj (λ e=>h (e.2.2.2 i Dv));have At7:(xyP (a.getD i T8)/\(o.getD i []).length<=4/\UU a.length i (o.getD i []))->∀j,j<i+1->xyP (a.getD j T8)/\(o.getD j []).length<=4/\UU a.length j (o.getD j []):=λ h j B=>by
   rcases BK.1 B with S | rfl
   . exact Adr j S
   . exact h
 generalize o.getD i []=r at a5 Rz u At7;generalize a.getD i T8=b at q u At7;have FC:(0:Int)<=(i:Int)/\(i:Int)<(o.length:Int):=AQ;have Ol:(i:Int)<(a.length:Int):=AQ;cases f:decide (b.x< -9999);rotate_left
 . simp only[go_sem,Du,DB,C1,Nt.cs,Be,Rz,q,FC,Ol,f];rw[u (λ e=>by have:=e.1.1;simp at f;omega)]
 cases g:decide (9999<b.x);rotate_left
 . simp only[go_sem,Du,DB,C1,Nt.cs,Be,Rz,q,FC,Ol,f,g];rw[u (λ e=>by have:=e.1.2.1;simp at g;omega)]
 cases l:decide (b.y< -9999);rotate_left
 . simp only[go_sem,Du,DB,C1,Nt.cs,Be,Rz,q,FC,Ol,f,g,l];rw[u (λ e=>by have:=e.1.2.2.1;simp at l;omega)]
 cases s:decide (9999<b.y);rotate_left
 . simp only[go_sem,Du,DB,C1,Nt.cs,Be,Rz,q,FC,Ol,f,g,l,s];rw[u (λ e=>by have:=e.1.2.2.2;simp at s;omega)]
 cases H:decide (4<(r.length:Int));rotate_left
 . simp only[go_sem,Du,DB,C1,Nt.cs,Be,Rz,q,FC,Ol,f,g,l,s,H];rw[u (λ e=>by have:=e.2.1;simp at H;omega)]
 simp only[go_sem,Du,DB,C1,Nt.cs,Be,Rz,q,FC,Ol,f,g,l,s,H];have a7:xyP b:=by simp at f g l s;exact ⟨f,g,l,s⟩
 have a4:r.length<=4:=by simp at H;omega
 clear f g l s H;have Nz:¬UU a.length i r->decide (NC ⟨a,o,Z,Y,Q,I,K,N⟩)=false:=λ h=>u (λ e=>h e.2.2);have Qs:UU a.length i r->∀j,j<i+1->xyP (a.getD j T8)/\(o.getD j []).length<=4/\UU a.length j (o.getD j []):=λ h=>At7 ⟨a7,a4,h⟩;refine Dm (λ k:Nat=>⟨[(1,.ptr 1 0),(3,.p (.int .i64 (i:Nat))),(4,.ptr 4 0),(5,.p (.int .i64 (k:Nat)))],[(1,.box (Nt.cs ⟨a,o,Z,Y,Q,I,K,N⟩)),(4,.box [.p (.str b.name),.p (.int .i64 b.x),.p (.int .i64 b.y)])],114⟩) (λ k=>k<=r.length/\∀j,j<k->To a.length i r j) (λ k=>r.length - k) 0 ⟨BO _,λ j B=>absurd B (B5 _)⟩ (Wk.forget (by simp[ZF,Nt.cs])) ?_;rintro k n2 ⟨hk,R7⟩ Wi;simp only[go_sem,Du,DB,C1,Nt.cs,Be,Rz,FC,Ol];refine D2 (λ S=>?_) (λ S=>?_);rotate_left
 . have:k=r.length:=by simp at S;omega
   subst this;simp only[go_sem,hw];refine ih (i+1) _ ⟨Dv,Qs R7⟩ AQ ?_
   (refine Wk.forget ?_;simp[ZF,Nt.cs];done)
 have Uu:k<r.length:=by simp at S;omega
 have Rx:=DG k AQ;have U3:=Fs r k Uu;have Km:(0:Int)<=(k:Int)/\(k:Int)<(r.length:Int):=AQ;have PZ:To a.length i r k↔(0<=r.getD k 0/\r.getD k 0<(a.length:Int)/\r.getD k 0≠(i:Int)/\(0<k->r.getD (k - 1) 0<r.getD k 0)):=Iff.rfl;have EH:¬To a.length i r k->decide (NC ⟨a,o,Z,Y,Q,I,K,N⟩)=false:=λ h=>Nz (λ e=>h (e k Uu));have Aog:To a.length i r k->∀j,j<k+1->To a.length i r j:=λ h j B=>by
   rcases BK.1 B with h4 | rfl
   . exact R7 j h4
   . exact h
 rcases k with _ | m
 . have t:(0:Int)<(r.length:Int):=AQ;have a6:i64.wrap (0+1)=1:=rfl;generalize r.getD 0 0=y at U3 PZ;cases f:decide (y<0);rotate_left
   . simp only[go_sem,Du,DB,C1,Nt.cs,Be,Rz,FC,Ol,U3,t,f];rw[EH (λ e=>by have:=PZ.1 e;simp at f;omega)]
   cases g:decide ((a.length:Int)<=y);rotate_left
   . simp only[go_sem,Du,DB,C1,Nt.cs,Be,Rz,FC,Ol,U3,t,f,g];rw[EH (λ e=>by have:=PZ.1 e;simp at g;omega)]
   cases l:decide (y=(i:Int));rotate_left
   . simp only[go_sem,Du,DB,C1,Nt.cs,Be,Rz,FC,Ol,U3,t,f,g,l];rw[EH (λ e=>by have:=PZ.1 e;simp at l;omega)]
   simp only[go_sem,Du,DB,C1,Nt.cs,Be,Rz,FC,Ol,U3,t,f,g,l,a6];refine Wi (0+1) _ ⟨Uu,Aog (PZ.2 (by simp at f g l;exact ⟨AQ,AQ,l,λ h=>absurd h (Nat.lt_irrefl _)⟩))⟩ AQ ?_
   (refine Wk.forget ?_;simp[ZF,Nt.cs];done)
 . have a3:m<r.length:=AQ;have w:=Fs r m a3;have V:(0:Int)<=(m:Int)/\(m:Int)<(r.length:Int):=AQ;have W:=NI m AQ;have U:(0:Int)<((m+1:Nat):Int):=AQ;rw[show m+1 - 1=m from rfl] at PZ;generalize r.getD (m+1) 0=y at U3 PZ;generalize r.getD m 0=z at w PZ;cases f:decide (y<0);rotate_left
   . simp only[go_sem,Du,DB,C1,Nt.cs,Be,Rz,FC,Ol,U3,Km,f];rw[EH (λ e=>by have:=PZ.1 e;simp at f;omega)]
   cases g:decide ((a.length:Int)<=y);rotate_left
   . simp only[go_sem,Du,DB,C1,Nt.cs,Be,Rz,FC,Ol,U3,Km,f,g];rw[EH (λ e=>by have:=PZ.1 e;simp at g;omega)]
   cases l:decide (y=(i:Int));rotate_left
   . simp only[go_sem,Du,DB,C1,Nt.cs,Be,Rz,FC,Ol,U3,Km,f,g,l];rw[EH (λ e=>by have:=PZ.1 e;simp at l;omega)]
   cases s:decide (y<=z);rotate_left
   . simp only[go_sem,Du,DB,C1,Nt.cs,Be,Rz,FC,Ol,U3,Km,w,V,W,U,f,g,l,s];rw[EH (λ e=>by have:=(PZ.1 e).2.2.2 AQ;simp at s;omega)]
   simp only[go_sem,Du,DB,C1,Nt.cs,Be,Rz,FC,Ol,U3,Km,w,V,W,U,f,g,l,s,Rx];refine Wi (m+1+1) _ ⟨Uu,Aog (PZ.2 (by simp at f g l s;exact ⟨AQ,AQ,l,λ _=>AQ⟩))⟩ AQ ?_
   (refine Wk.forget ?_;simp[ZF,Nt.cs];done)
def Kk(n:Nt):Ai:=n.blocks.map Blk.name++n.CV.map Su.name
def Wc(n:Nt):Prop:=∀i,i<(Kk n).length->MJ ((Kk n).getD i [])=true/\∀k,k<i->(Kk n).getD i []≠(Kk n).getD k []
instance (n:Nt):Decidable (Wc n):=by unfold Wc;exact inferInstance
theorem Vr{α β:Type}(f:α->β)(l:List α)(i)(x:α)(h:i<l.length):(l.take (i+1)).map f=(l.take i).map f++[f (l.getD i x)]:=by
 rw[List.take_add_one,List.map_append,List.getD,Bp h];rfl
theorem Bdh(n)(hb:n.blocks.length<=10000000)(I:n.CV.length<=10000000):C4 prog 64 [.agg n.cs] [] λ h r=>h=[]/\r=bD (decide (Wc n)):=by
 generalize w:Kk n=L;have x:L.length=n.blocks.length+n.CV.length:=by rw[<-w];simp[Kk]
 refine Dw func64 rfl Bg1 (by simp[Tryz.f64]) ?_;simp only[go_sem,Nt.cs];refine Dm (λ i:Nat=>⟨[(1,.ptr 1 0),(3,.ref 23 0 i i),(4,.p (.int .i64 (i:Nat)))],[(1,.box (Nt.cs n)),(23,.arr 9 1 (Eg ((n.blocks.take i).map Blk.name)))],66⟩) (λ i=>i<=n.blocks.length) (λ i=>n.blocks.length - i) 0 (BO _) ((Wk.nil (t:=3) (q:=23) (sz:=1) 9 rfl rfl AV).trans (Wk.forget (by simp[ZF,Nt.cs,Eg]))) ?_;rintro i m E f;have a:(Eg ((n.blocks.take i).map Blk.name)).length=i:=by rw[DC];simp;omega
 simp only[go_sem,Nt.cs,DB];refine D2 (λ h2=>?_) (λ h2=>?_)
 . have Dv:i<n.blocks.length:=by simp at h2;omega
   have g:=DG i AQ;have b:=Apk n.blocks i Dv;have FC:(0:Int)<=(i:Int)/\(i:Int)<(n.blocks.length:Int):=AQ;simp only[go_sem,DB,Nt.cs,Be,b,FC,a];refine ⟨⟨Lr _ _ rfl,AQ⟩,?_⟩;simp only[go_sem,g];refine f (i+1) _ Dv AQ ?_
   (refine Wk.forget ?_;simp[ZF,Nt.cs,Vr Blk.name n.blocks i T8 Dv,GL,a,-List.map_take];done)
 have:i=n.blocks.length:=by simp at h2;omega
 subst this;clear f a;simp only[go_sem];refine Dm (λ i:Nat=>⟨[(1,.ptr 1 0),(3,.ref 23 0 (n.blocks.length+i) (n.blocks.length+i)),(5,.p (.int .i64 (i:Nat)))],[(1,.box (Nt.cs n)),(23,.arr 9 1 (Eg (n.blocks.map Blk.name++(n.CV.take i).map Su.name)))],66⟩) (λ i=>i<=n.CV.length) (λ i=>n.CV.length - i) 0 (BO _) (Wk.forget (by simp[ZF,Nt.cs,Eg])) ?_;rintro i K HP f;have a:(Eg (n.blocks.map Blk.name++(n.CV.take i).map Su.name)).length=n.blocks.length+i:=by rw[DC];simp;omega
 simp only[go_sem,Nt.cs,Ea];refine D2 (λ h2=>?_) (λ h2=>?_)
 . have Dv:i<n.CV.length:=by simp at h2;omega
   have g:=DG i AQ;have b:=Ov n.CV i Dv;have FC:(0:Int)<=(i:Int)/\(i:Int)<(n.CV.length:Int):=AQ;simp only[go_sem,Ea,Nt.cs,Be,b,FC,a];refine ⟨⟨Lr _ _ rfl,AQ⟩,?_⟩;simp only[go_sem,g];refine f (i+1) _ Dv AQ ?_
   (refine Wk.forget ?_;simp[ZF,Nt.cs,Vr Su.name n.CV i E3 Dv,GL,<-List.append_assoc,Nat.add_assoc,a,-List.map_take];done)
 have:i=n.CV.length:=by simp at h2;omega
 subst this;clear f a;rw[BE,show n.blocks.map Blk.name++n.CV.map Su.name=L from w,<-x];simp only[go_sem];have y:Wc n↔∀i,i<L.length->MJ (L.getD i [])=true/\∀k,k<i->L.getD i []≠L.getD k []:=by unfold Wc;rw[w]
 refine Dm (λ i:Nat=>⟨[(3,.ref 23 0 L.length L.length),(6,.p (.int .i64 (i:Nat)))],[(23,.arr 9 1 (Eg L))],66⟩) (λ i=>i<=L.length/\∀j,j<i->MJ (L.getD j [])=true/\∀k,k<j->L.getD j []≠L.getD k []) (λ i=>L.length - i) 0 ⟨BO _,λ j e=>absurd e (B5 _)⟩ (Wk.forget (by simp[ZF,Nt.cs,Eg])) ?_;rintro i N ⟨B,Fx⟩ f;simp only[go_sem,DC];refine D2 (λ s=>?_) (λ s=>?_);rotate_left
 . simp only[go_sem];have:i=L.length:=by simp at s;omega
   subst this;rw[Bi (y.2 Fx)];try simp
 have Dv:i<L.length:=by simp at s;omega
 have g:=DG i AQ;have Rz:=Lj L i Dv;have FC:(0:Int)<=(i:Int)/\(i:Int)<(L.length:Int):=AQ;simp only[go_sem,DC,Be,Rz,FC];refine Cq ((Ao3 _)) ?_;cases o:MJ (L.getD i [])
 . simp only[go_sem,o];rw[Bj (λ z=>by have:=(y.1 z i Dv).1;rw[o] at this;cases this)];try simp
 simp only[go_sem,o];refine Dm (λ k:Nat=>⟨[(3,.ref 23 0 L.length L.length),(6,.p (.int .i64 (i:Nat))),(7,.p (.int .i64 (k:Nat)))],[(23,.arr 9 1 (Eg L))],66⟩) (λ k=>k<=i/\∀j,j<k->L.getD i []≠L.getD j []) (λ k=>i - k) 0 ⟨BO _,λ j e=>absurd e (B5 _)⟩ (Wk.forget (by simp[ZF,Eg])) ?_;rintro k Q ⟨H,EH⟩ Wi;simp only[go_sem];refine D2 (λ u=>?_) (λ u=>?_)
 . have Uu:k<i:=by simp at u;omega
   have Rx:=DG k AQ;have U3:=Lj L k AQ;have Km:(0:Int)<=(k:Int)/\(k:Int)<(L.length:Int):=AQ;simp only[go_sem];refine Yu [(23,.arr 9 1 (Eg L))] mixed (p:=[(0,0),(1,0),(2,0),(3,0),(4,0),(5,0),(6,0),(7,0),(8,0)]) AX A8 ?_;simp only[go_sem,DC,Be,Rz,FC,U3,Km];cases l:decide (L.getD i []=L.getD k [])
   . simp only[go_sem,l,Rx];refine Wi (k+1) _ ⟨Uu,λ j e=>?_⟩ AQ ?_
     . rcases BK.1 e with v | rfl
       . exact EH j v
       . exact Bh l
     . (refine Wk.forget ?_;simp[ZF];done)
   . simp only[go_sem,l];rw[Bj (λ z=>(y.1 z i Dv).2 k Uu (Bg l))];try simp
 . have:k=i:=by simp at u;omega
   subst this;simp only[go_sem,g];refine f (k+1) _ ⟨Dv,λ j e=>?_⟩ AQ ?_
   . rcases BK.1 e with v | rfl
     . exact Fx j v
     . exact ⟨o,EH⟩
   . (refine Wk.forget ?_;simp[ZF];done)
def U4(f a b e:Int):Prop:=1<=f/\f<=8/\0<=a/\a<=4/\0<=b/\b<=3/\1<=e/\e<=16
instance (cq ca cd cp:Int):Decidable (U4 cq ca cd cp):=by unfold U4;exact inferInstance
theorem Agw(cq ca cd cp):C4 prog 65 [.agg [iD cq,iD ca,iD cd,iD cp]] [] λ h r=>h=[]/\r=bD (decide (U4 cq ca cd cp)):=by
 refine Dw func65 rfl Bg0 (by simp[Tryz.f65]) ?_;by_cases a:1<=cq;rotate_left
 . simp only[go_sem,a];simp[U4,a]
 by_cases h2:cq<=8;rotate_left
 . simp only[go_sem,a,h2];simp[U4,h2]
 by_cases b:0<=ca;rotate_left
 . simp only[go_sem,a,h2,b];simp[U4,b]
 by_cases e:ca<=4;rotate_left
 . simp only[go_sem,a,h2,b,e];simp[U4,e]
 by_cases f:0<=cd;rotate_left
 . simp only[go_sem,a,h2,b,e,f];simp[U4,f]
 by_cases g:cd<=3;rotate_left
 . simp only[go_sem,a,h2,b,e,f,g];simp[U4,g]
 by_cases i:1<=cp;rotate_left
 . simp only[go_sem,a,h2,b,e,f,g,i];simp[U4,i]
 by_cases j:cp<=16
 . simp only[go_sem,a,h2,b,e,f,g,i,j];simp[U4,a,h2,b,e,f,g,i,j]
 . simp only[go_sem,a,h2,b,e,f,g,i,j];simp[U4,j]
theorem J6(l):(Dn l).length=l.length:=by simp[Dn]
theorem MU{α:Type}(l:List α)(i j)(x y:α):(l.set i x).getD j y=if i=j/\i<l.length then x else l.getD j y:=by
 simp only[List.getD,BH];by_cases h:i=j
 . subst h;by_cases h2:i<l.length
   . simp[h2]
   . simp[h2]
 . simp[h]
def WV(g:Ab)(sh:Ad)(d:Int)(v:Nat)(o:Aa):Aa:=
 if sh.getD v false=true∨0<=o.getD v 0 then o else if (g.getD v []).any (λ w=>decide (o.getD w.toNat 0=d - 1))=true then o.set v d else o
def Vc(g:Ab)(sh:Ad)(d:Int):Nat->Nat->Aa->Aa
 | 0,_,o=>o
 | f+1,v,o=>Vc g sh d f (v+1) (WV g sh d v o)
def Yq(g:Ab)(sh:Ad):Nat->Nat->Aa->Aa
 | 0,_,o=>o
 | f+1,d,o=>Yq g sh f (d+1) (Vc g sh d g.length 0 o)
def IG(g:Ab)(sh:Ad)(ET:Nat):Aa:=
 if sh.getD ET false=true then List.replicate g.length (-1) else Yq g sh (g.length - 1) 1 ((List.replicate g.length (-1)).set ET 0)
theorem Awh(g)(sh)(d)(v)(o):(WV g sh d v o).length=o.length:=by
 unfold WV;split
 . rfl
 . split<;>simp
theorem Ah2(g)(sh)(d):∀(f v:Nat) (o:Aa),(Vc g sh d f v o).length=o.length
 | 0,_,_=>rfl
 | f+1,v,o=>by rw[Vc,Ah2 g sh d f,Awh]
theorem Ajd(g)(sh):∀(f d:Nat) (o:Aa),(Yq g sh f d o).length=o.length
 | 0,_,_=>rfl
 | f+1,d,o=>by rw[Yq,Ajd g sh f,Ah2]
theorem Zq(g)(sh)(ET):(IG g sh ET).length=g.length:=by
 unfold IG;split
 . simp
 . rw[Ajd];simp
def DP(g:Ab)(ET:Nat)(m:Int)(o:Aa):Prop:=
 o.length=g.length/\∀v,v<g.length->o.getD v 0=-1∨(o.getD v 0=0/\v=ET)∨(1<=o.getD v 0/\o.getD v 0<=m/\∃w∈g.getD v [],o.getD w.toNat 0=o.getD v 0 - 1)
theorem Bcq{g}(z:PQ g){sh}{ET}{d}{v}{o}(H:v<g.length)(y:1<=d)(h:DP g ET d o):DP g ET d (WV g sh d v o):=by
 unfold WV;split
 . exact h
 rename_i s;split
 . rename_i h2;obtain ⟨E,B⟩:=h;have Aoj:o.getD v 0<0:=by
     rcases Int.lt_or_le (o.getD v 0) 0 with a | a
     . exact a
     . exact absurd (Or.inr a) s
   refine ⟨by simpa using E,λ u i=>?_⟩;rw[Cb] at h2;obtain ⟨w,l,b⟩:=h2;have b:=Bg b;have Aay:∀j,j<g.length->(o.set v d).getD j 0=if v=j then d else o.getD j 0:=λ j K=>by
     rw[MU];by_cases e:v=j
     . rw[if_pos ⟨e,AQ⟩,if_pos e]
     . rw[if_neg (λ h=>e h.1),if_neg e]
   have f:∀u,u<g.length->∀w∈g.getD u [],0<=w/\w<(g.length:Int)/\w≠(u:Int):=λ u i w l=>by
     obtain ⟨k,q,rfl⟩:=Cg.1 l;have:=z.2 u i k q;unfold To at this;have r:(g.getD u []).getD k 0=(g.getD u [])[k]:=getD_eq q;rw[r] at this;exact ⟨this.1,this.2.1,this.2.2.1⟩
   rw[Aay u i];by_cases e:v=u
   . subst e;rw[if_pos rfl];have a:=f v H w l;refine .inr (.inr ⟨y,Int.le_refl _,w,l,?_⟩);rw[Aay _ AQ,if_neg AQ];exact b
   . rw[if_neg e];rcases B u i with a | a | ⟨a,t,m,p,x⟩
     . exact .inl a
     . exact .inr (.inl a)
     . refine .inr (.inr ⟨a,t,m,p,?_⟩);have I:=f u i m p;rw[Aay _ AQ];by_cases n:v=m.toNat
       . rw[n] at Aoj;omega
       . rw[if_neg n];exact x
 . exact h
theorem Amr{g}(b:PQ g){sh}{ET}{d}(a:1<=d):∀(f v:Nat) (o:Aa),v+f<=g.length->DP g ET d o->DP g ET d (Vc g sh d f v o)
 | 0,_,_,_,h=>h
 | f+1,v,o,e,h=>Amr b a f (v+1) _ AQ (Bcq b AQ a h)
theorem DP.mono{g}{ET}{m b}{o}(j:m<=b)(h:DP g ET m o):DP g ET b o:=
 ⟨h.1,λ v f=>by
   rcases h.2 v f with a | a | ⟨a,i,e⟩
   . exact .inl a
   . exact .inr (.inl a)
   . exact .inr (.inr ⟨a,AQ,e⟩)⟩
theorem Aqk{g}(a:PQ g){sh}{ET}:∀(f d:Nat) (o:Aa),1<=d->DP g ET d o->DP g ET (d+f:Nat) (Yq g sh f d o)
 | 0,d,o,_,h=>h.mono AQ
 | f+1,d,o,b,h=>by
   have:=Aqk (sh:=sh) a f (d+1) (Vc g sh d g.length 0 o) AQ ((Amr a AQ g.length 0 o AQ h).mono AQ);rw[show d+1+f=d+(f+1) by omega] at this;exact this
theorem Aq8{g}(b:PQ g)(sh)(ET)(Pm:ET<g.length):DP g ET 24 (IG g sh ET):=by
 have Bsl:∀v,v<g.length->(List.replicate g.length (-1:Int)).getD v 0=-1:=λ v a=>by simp[List.getD,a]
 unfold IG;split
 . exact ⟨AT,λ v a=> .inl (Bsl v a)⟩
 . refine (Aqk b (g.length - 1) 1 _ (Bk _) ⟨AT,λ v a=>?_⟩).mono (by have:=b.1;omega);rw[MU];by_cases e:ET=v
   . rw[if_pos ⟨e,by simpa using Pm⟩];exact .inr (.inl ⟨rfl,e.symm⟩)
   . rw[if_neg (λ h=>e h.1)];exact .inl (Bsl v a)
theorem Acn{g}(a:PQ g){u}(e:u<g.length){k}(b:k<(g.getD u []).length):∃w:Nat,(g.getD u []).getD k 0=(w:Int)/\w<g.length/\w≠u:=by
 have:=a.2 u e k b;unfold To at this;exact ⟨((g.getD u []).getD k 0).toNat,AQ,AQ,AQ⟩
def GO:List Su->Int
 | []=>0
 | s::r=>s.Ei+GO r
theorem IN(l)(s):GO (l++[s])=GO l+s.Ei:=by
 induction l with
 | nil=>simp[GO]
 | cons x r a=>simp only[CD,GO,a];omega
def Vu(a:Nat)(b:Int)(s:Su):Prop:=0<=s.PK/\s.PK<(a:Int)/\0<=s.out/\s.out<(a:Int)/\1<=s.Ei/\s.Ei<=4/\s.base=b
instance (nb:Nat) (b:Int) (s:Su):Decidable (Vu nb b s):=by unfold Vu;exact inferInstance
def inD(x:Int)(s:Su):Bool:=s.Fw&&(decide (s.base<=x)&&decide (x<s.base+s.Ei))
def JN(a:Nat)(l:List Su):Prop:=∀i,i<l.length->Vu a (a+GO (l.take i)) (l.getD i E3)
instance (nb:Nat) (l:List Su):Decidable (JN nb l):=by unfold JN;exact inferInstance
def Nx(sp:List Su)(l:Aa):Prop:=∀i,i<l.length->sp.any (inD (l.getD i 0))=true/\l.getD i 0∉l.take i
instance (sp:List Su) (l:Aa):Decidable (Nx sp l):=by unfold Nx;exact inferInstance
def validN(n:Nt):Prop:=NC n/\n.CV.length<=6/\Wc n/\n.C8.length<=8/\U4 n.cq n.ca n.cd n.cp/\JN n.blocks.length n.CV/\Nx n.CV n.C8/\0<(n.CV.filter Su.Fw).length
instance (n:Nt):Decidable (validN n):=by unfold validN;exact inferInstance
theorem S4(nb)(l:List Su)(k)(i:k<=l.length)(h:∀j,j<k->Vu nb (nb+GO (l.take j)) (l.getD j E3)):0<=GO (l.take k)/\GO (l.take k)<=4*k:=by
 induction k with
 | zero=>simp[GO]
 | succ k a=>
   have b:=a AQ (λ j g=>h j AQ);have h2:=h k AQ;rw[Hh l k E3 AQ,IN];obtain ⟨_,_,_,_,e,f,_⟩:=h2;omega
def smallN(n:Nt):Prop:=n.blocks.length<=10000000/\YW n.next/\n.CV.length<=10000000/\n.C8.length<=10000000
theorem Ah0(n)(W:smallN n):C4 prog 35 [.agg n.cs] [] λ h r=>h=[]/\r=bD (decide (validN n)):=by
 have hB:=Bbi n W.1 W.2.1;have hN:=Bdh n W.1 W.2.2.1;have hC:=Agw n.cq n.ca n.cd n.cp;obtain ⟨_,_,a2,KI⟩:=W;refine Dw func35 rfl Bgo (by simp[Tryz.f35]) ?_;simp only[go_sem,Nt.cs];refine Cq ((hB)) ?_;cases E:decide (NC n)
 . simp only[go_sem,E];rw[Bj (λ a=>Bh E a.1)]
 cases N:decide (6<(n.CV.length:Int));rotate_left
 . simp only[go_sem,Nt.cs,Ea,E,N];rw[Bj (λ a=>by have:=a.2.1;have:=Bg N;omega)]
 simp only[go_sem,Nt.cs,Ea,E,N];refine Cq ((hN)) ?_;cases H:decide (Wc n)
 . simp only[go_sem,H];rw[Bj (λ a=>Bh H a.2.2.1)]
 cases Q:decide (8<(n.C8.length:Int));rotate_left
 . simp only[go_sem,Nt.cs,C1,H,Q];rw[Bj (λ a=>by have:=a.2.2.2.1;have:=Bg Q;omega)]
 simp only[go_sem,Nt.cs,C1,H,Q];refine Cq ((hC)) ?_;cases R:decide (U4 n.cq n.ca n.cd n.cp)
 . simp only[go_sem,R];rw[Bj (λ a=>Bh R a.2.2.2.2.1)]
 simp only[go_sem,Nt.cs,DB,R];clear hB hN hC;have e1:=Bg E;have e2:=Bh N;have e3:=Bg H;have e4:=Bh Q;have e5:=Bg R;clear E N H Q R;have Bke:n.blocks.length<=24:=e1.2.1;refine Dm (λ i:Nat=>⟨[(1,.ptr 1 0),(3,iD ((n.blocks.length:Int)+GO (n.CV.take i))),(4,iD (((n.CV.take i).filter Su.Fw).length:Nat)),(5,iD (i:Nat))],[(1,.box (Nt.cs n))],163⟩)
   (λ i=>i<=n.CV.length/\∀j,j<i->Vu n.blocks.length (n.blocks.length+GO (n.CV.take j)) (n.CV.getD j E3)) (λ i=>n.CV.length - i) 0 ⟨BO _,λ j y=>absurd y (B5 _)⟩ (Wk.forget (by simp[ZF,Nt.cs,GO])) ?_
 rintro i m ⟨hi,Fx⟩ V;simp only[go_sem,Nt.cs,Ea];refine D2 (λ h2=>?_) (λ h2=>?_)
 . have Dv:i<n.CV.length:=by simp at h2;omega
   have hw:=DG i AQ;have t:=Ov n.CV i Dv;have FC:(0:Int)<=(i:Int)/\(i:Int)<(n.CV.length:Int):=AQ;have Bsk:=S4 n.blocks.length n.CV i hi Fx;have Nz:¬Vu n.blocks.length (n.blocks.length+GO (n.CV.take i)) (n.CV.getD i E3)->decide (validN n)=false:=λ h=>Bj (λ a=>h (a.2.2.2.2.2.1 i Dv));have Qs:Vu n.blocks.length (n.blocks.length+GO (n.CV.take i)) (n.CV.getD i E3)->∀j,j<i+1->Vu n.blocks.length (n.blocks.length+GO (n.CV.take j)) (n.CV.getD j E3):=λ h j y=>by
     rcases BK.1 y with q | rfl
     . exact Fx j q
     . exact h
   have u:=Hh n.CV i E3 Dv;have a1:((n.CV.take i).filter Su.Fw).length<=i:=by
     refine CF (List.length_filter_le _ _) ?_;simp;omega
   generalize n.CV.getD i E3=s at*;obtain ⟨nm,Y,PK,out,sl,v⟩:=s;simp only[Vu] at Nz Qs;generalize hS:GO (n.CV.take i)=S at*;generalize T:((n.CV.take i).filter Su.Fw).length=I at*;cases b:decide (PK<0);rotate_left
   . simp only[go_sem,Nt.cs,Ea,DB,Be,t,FC,b];rw[Nz (λ a=>by have:=Bg b;omega)]
   cases e:decide ((n.blocks.length:Int)<=PK);rotate_left
   . simp only[go_sem,Nt.cs,Ea,DB,Be,t,FC,b,e];rw[Nz (λ a=>by have:=Bg e;omega)]
   cases o:decide (out<0);rotate_left
   . simp only[go_sem,Nt.cs,Ea,DB,Be,t,FC,b,e,o];rw[Nz (λ a=>by have:=Bg o;omega)]
   cases w:decide ((n.blocks.length:Int)<=out);rotate_left
   . simp only[go_sem,Nt.cs,Ea,DB,Be,t,FC,b,e,o,w];rw[Nz (λ a=>by have:=Bg w;omega)]
   cases z:decide (sl<1);rotate_left
   . simp only[go_sem,Nt.cs,Ea,DB,Be,t,FC,b,e,o,w,z];rw[Nz (λ a=>by have:=Bg z;omega)]
   cases B:decide (4<sl);rotate_left
   . simp only[go_sem,Nt.cs,Ea,DB,Be,t,FC,b,e,o,w,z,B];rw[Nz (λ a=>by have:=Bg B;omega)]
   cases K:decide (v=(n.blocks.length:Int)+S)
   . simp only[go_sem,Nt.cs,Ea,DB,Be,t,FC,b,e,o,w,z,B,K];rw[Nz (λ a=>by have:=Bh K;omega)]
   have a3:1<=sl/\sl<=4:=by have:=Bh z;have:=Bh B;omega
   have l:i64.wrap ((n.blocks.length:Int)+S+sl)=(n.blocks.length:Int)+S+sl:=by rw[C6]<;>omega
   have R7:=Qs (by have:=Bh b;have:=Bh e;have:=Bh o;have:=Bh w;have:=Bg K;omega);have a0:=DG I AQ;cases Y
   . simp only[go_sem,Nt.cs,Ea,DB,Be,t,FC,b,e,o,w,z,B,K,l,hw];refine V (i+1) _ ⟨Dv,R7⟩ AQ ?_
     (refine Wk.forget ?_;simp[ZF,Nt.cs,u,IN,hS,T,Int.add_assoc];done)
   . simp only[go_sem,Nt.cs,Ea,DB,Be,t,FC,b,e,o,w,z,B,K,l,hw,a0];refine V (i+1) _ ⟨Dv,R7⟩ AQ ?_
     (refine Wk.forget ?_;simp[ZF,Nt.cs,u,IN,hS,T,Int.add_assoc];done)
 have:i=n.CV.length:=by simp at h2;omega
 subst this;have QZ:JN n.blocks.length n.CV:=Fx;rw[BE];have Ca7:∀k,k<n.CV.length->0<=(n.CV.getD k E3).base/\(n.CV.getD k E3).base<=1000/\1<=(n.CV.getD k E3).Ei/\(n.CV.getD k E3).Ei<=4:=λ k hk=>by
   have q:=QZ k hk;have Z:=S4 n.blocks.length n.CV k AQ (λ j y=>QZ j AQ);obtain ⟨_,_,_,_,h5,h6,h7⟩:=q;omega
 clear V Fx;generalize T:(n.CV.filter Su.Fw).length=I;simp only[go_sem];refine Dm (λ i:Nat=>⟨[(1,.ptr 1 0),(4,iD (I:Nat)),(7,iD (i:Nat))],[(1,.box (Nt.cs n))],163⟩)
   (λ i=>i<=n.C8.length/\∀j,j<i->n.CV.any (inD (n.C8.getD j 0))=true/\n.C8.getD j 0∉n.C8.take j) (λ i=>n.C8.length - i) 0 ⟨BO _,λ j y=>absurd y (B5 _)⟩ (Wk.forget (by simp[ZF,Nt.cs])) ?_
 rintro i m2 ⟨HP,Fx⟩ V;simp only[go_sem,Nt.cs,C1];refine D2 (λ q=>?_) (λ q=>?_);rotate_left
 . simp only[go_sem];have:i=n.C8.length:=by simp at q;omega
   subst this;have hv:decide (validN n)=decide (0<(I:Int)):=by
     by_cases U:0<I
     . rw[Bi (show validN n from ⟨e1,AQ,e3,AQ,e5,QZ,Fx,by rw[T];exact U⟩),Bi AQ]
     . rw[Bj (λ a:validN n=>U (by have:=a.2.2.2.2.2.2.2;rw[T] at this;exact this)),Bj AQ]
   rw[hv];try simp
 have Dv:i<n.C8.length:=by simp at q;omega
 have hw:=DG i AQ;have g:=Fs n.C8 i Dv;have FC:(0:Int)<=(i:Int)/\(i:Int)<(n.C8.length:Int):=AQ;have Nz:¬(n.CV.any (inD (n.C8.getD i 0))=true/\n.C8.getD i 0∉n.C8.take i)->decide (validN n)=false:=λ h=>Bj (λ a=>h (a.2.2.2.2.2.2.1 i Dv));have Qs:(n.CV.any (inD (n.C8.getD i 0))=true/\n.C8.getD i 0∉n.C8.take i)->∀j,j<i+1->n.CV.any (inD (n.C8.getD j 0))=true/\n.C8.getD j 0∉n.C8.take j:=λ h j y=>by
   rcases BK.1 y with q | rfl
   . exact Fx j q
   . exact h
 generalize n.C8.getD i 0=x at g Nz Qs;simp only[go_sem];refine Dm (λ k:Nat=>⟨[(1,.ptr 1 0),(4,iD (I:Nat)),(7,iD (i:Nat)),(8,bD ((n.CV.take k).any (inD x))),(9,iD (k:Nat))],[(1,.box (Nt.cs n))],163⟩)
   (λ k=>k<=n.CV.length) (λ k=>n.CV.length - k) 0 (BO _) (Wk.forget (by simp[ZF,Nt.cs])) ?_
 rintro k m3 hk Wi;simp only[go_sem,Nt.cs,Ea];refine D2 (λ Z=>?_) (λ Z=>?_)
 . have Uu:k<n.CV.length:=by simp at Z;omega
   have Rx:=DG k AQ;have U3:=Ov n.CV k Uu;have Km:(0:Int)<=(k:Int)/\(k:Int)<(n.CV.length:Int):=AQ;have hb:=Ca7 k Uu;have u:=Hh n.CV k E3 Uu;generalize n.CV.getD k E3=s at*;obtain ⟨nm,Y,PK,out,sl,v⟩:=s;simp only at hb;have l:i64.wrap (v+sl)=v+sl:=by rw[C6]<;>omega
   have f:(n.CV.take (k+1)).any (inD x)=((n.CV.take k).any (inD x)||(Y&&(decide (v<=x)&&decide (x<v+sl)))):=by
     rw[u,List.any_append];simp[inD]
   generalize (n.CV.take k).any (inD x)=ok at*;simp only[go_sem,Nt.cs,Ea,Be,U3,Km];refine PW mixed (p:=[(0,0),(1,0),(2,0),(3,0),(4,0),(5,0),(6,0),(7,0),(8,0),(9,0),(10,0),(11,0),(12,0),(13,0),(14,0),(15,0),(16,0),(17,0),(18,0),(19,0),(20,0),(21,0),(22,0),(23,0),(24,0),(25,0),(26,0),(27,0),(28,0)]) AX A8 ?_;cases ok;rotate_left
   . simp only[go_sem,Nt.cs,Rx];refine Wi (k+1) _ Uu AQ ?_
     (refine Wk.forget ?_;simp[ZF,Nt.cs,f];done)
   cases Y
   . simp only[go_sem,Nt.cs,Rx];refine Wi (k+1) _ Uu AQ ?_
     (refine Wk.forget ?_;simp[ZF,Nt.cs,f];done)
   cases b:decide (v<=x)
   . simp only[go_sem,Nt.cs,C1,Be,g,FC,b,Rx];refine Wi (k+1) _ Uu AQ ?_
     (refine Wk.forget ?_;simp[ZF,Nt.cs,f,b];done)
   cases e:decide (x<v+sl)
   . simp only[go_sem,Nt.cs,C1,Be,g,FC,b,l,e,Rx];refine Wi (k+1) _ Uu AQ ?_
     (refine Wk.forget ?_;simp[ZF,Nt.cs,f,b,e];done)
   . simp only[go_sem,Nt.cs,C1,Be,g,FC,b,l,e,Rx];refine Wi (k+1) _ Uu AQ ?_
     (refine Wk.forget ?_;simp[ZF,Nt.cs,f,b,e];done)
 have:k=n.CV.length:=by simp at Z;omega
 subst this;rw[BE];simp only[go_sem];refine PW mixed (p:=[(0,0),(1,0),(2,0),(3,0),(4,0),(5,0),(6,0),(7,0),(8,0),(9,0),(10,0),(11,0),(12,2),(13,0)]) AX A8 ?_;cases ho:n.CV.any (inD x)
 . simp only[go_sem,ho];rw[Nz (λ a=>by rw[ho] at a;cases a.1)]
 simp only[go_sem,Nt.cs,C1,Be,g,FC,ho,Aem];refine ⟨⟨AQ,by simp[P0,CT]⟩,?_⟩;refine Gq ((Ber (n.C8.take i) x AW)) ?_;cases hh:decide (x∈n.C8.take i)
 . simp only[go_sem,hh,hw];refine V (i+1) _ ⟨Dv,Qs ⟨ho,Bh hh⟩⟩ AQ ?_
   (refine Wk.forget ?_;simp[ZF,Nt.cs];done)
 . simp only[go_sem,hh];rw[Nz (λ a=>a.2 (Bg hh))]
structure Cd where
 kind:Int
 a:Ac
 b:Ac
 n:Int
 deriving DecidableEq
def cd0:Cd:=⟨0,[],[],0⟩
def Cd.cs(x:Cd):Ah:=[.p (.int .i64 x.kind),.p (.str x.a),.p (.str x.b),.p (.int .i64 x.n)]
structure Fk where
 word:Ac
 na:Nat
 nu:Nat
def p9:List Fk:=[⟨[],0,0⟩,⟨[116,97,115,107],2,0⟩,⟨[99,97,110,99,101,108],0,1⟩,⟨[99,108,111,115,101],1,0⟩,⟨[111,112,101,110],1,0⟩,⟨[97,100,100],1,0⟩,⟨[114,101,109,111,118,101],0,1⟩,⟨[115,116,97,116,117,115],0,1⟩,⟨[98,108,111,99,107],1,0⟩,⟨[102,108,101,101,116],0,0⟩,⟨[113,117,101,117,101],0,0⟩]
def fK(j:Nat):Fk:=p9.getD j ⟨[],0,0⟩
def Lv(w:Ac):Nat:=(X0 (λ f:Fk=>decide (f.word=w)) 0 p9.tail+1).toNat
theorem r0{α:Type}(p:α->Bool):∀(l:List α) (k:Nat),X0 p k l=-1∨∃i x,l[i]?=some x/\p x=true/\X0 p k l=((k+i:Nat):Int)
 | [],k=> .inl rfl
 | x::r,k=>by
   simp only[X0];split
   . rename_i h;exact .inr ⟨0,x,rfl,h,rfl⟩
   . rcases r0 p r (k+1) with h | ⟨i,y,a,h2,b⟩
     . exact .inl h
     . exact .inr ⟨i+1,y,by simpa using a,h2,by rw[b];omega⟩
theorem Awb(w):X0 (λ f:Fk=>decide (f.word=w)) 0 p9.tail+1=(Lv w:Int)/\Lv w<11/\(Lv w≠0->(fK (Lv w)).word=w):=by
 unfold Lv;rcases r0 (λ f:Fk=>decide (f.word=w)) p9.tail 0 with h | ⟨i,x,a,h2,b⟩
 . rw[h];exact ⟨rfl,AV,λ h=>(h rfl).elim⟩
 . have l:p9.tail.length=10:=rfl;have k:=(Bn.1 a).1;rw[b];have e:(((0+i:Nat):Int)+1).toNat=i+1:=AQ;refine ⟨AQ,AQ,λ _=>?_⟩;rw[e];have g:p9[i+1]?=some x:=by rw[<-a];cases j:p9<;>simp
   simp only[fK,List.getD,g,BP];exact Bg h2
theorem Bf4(j):(fK j).na<=2/\(fK j).nu<=1/\((fK j).nu≠0->(fK j).na=0):=by
 by_cases h:j<11
 . have:∀j:Fin 11,(fK j).na<=2/\(fK j).nu<=1/\((fK j).nu≠0->(fK j).na=0):=AV;exact this ⟨j,h⟩
 . have:fK j=⟨[],0,0⟩:=by
     unfold fK;rw[Bu,List.getElem?_eq_none (by show 11<=j;omega)];rfl
   rw[this];decide
def Ab4(a:Ai):Ac:=a.getD 1 []
def Bez(a:Ai):Ac:=a.getD 2 []
def Bbb(j b e:Nat)(a:Ai):Cd:=
 if j=0∨a.length≠1+b+e∨((a.take (1+b)).drop 1).any (λ s=>!MJ s)=true then cd0
 else if e=0 then ⟨j,if 0<b then Ab4 a else [],if 1<b then Bez a else [],0⟩
 else if (GP (Ab4 a)).2=true/\0<=(GP (Ab4 a)).1 then ⟨j,if 0<b then Ab4 a else [],if 1<b then Bez a else [],(GP (Ab4 a)).1⟩ else cd0
def Bpp(a:Ai):Cd:=Bbb (Lv (a.getD 0 [])) (fK (Lv (a.getD 0 []))).na (fK (Lv (a.getD 0 []))).nu a
def Alw(t:Ac):Cd:=if (D9 t).2.2=0/\(D9 t).1.length=1 then Bpp ((D9 t).1.getD 0 ln0).fs else cd0
theorem Anh:∀(S:Ai) (k:Nat) (acc:AB),(∀x∈acc,x.fs≠[])->∀x∈(GF S k acc).1,x.fs≠[]
 | [],k,acc,h=>by simpa [GF] using h
 | t::r,k,acc,h=>by
   simp only[GF];split
   . refine Anh r (k+1) _ λ x hx=>?_;split at hx
     . rename_i a;simp only[BD,BG] at hx;rcases hx with hx | rfl
       . exact h x hx
       . exact Co.1 a
     . exact h x hx
   . simp
theorem Aib(t):∀x∈(D9 t).1,x.fs≠[]:=by
 unfold D9;split
 . simp
 . exact Anh _ _ _ AT
def Qo(w:Ac):D:= .Em [.p (.int .i64 (Lv w:Nat)),.p (.int .i64 ((fK (Lv w)).na:Nat)),.p (.bool (decide ((fK (Lv w)).nu=1)))]
theorem HV(w x)(n m)(k)(r)(h:¬w=x):X0 (λ f:Fk=>decide (f.word=w)) k (⟨x,n,m⟩::r)=X0 (λ f:Fk=>decide (f.word=w)) (k+1) r:=by
 have:¬x=w:=λ e=>h e.symm;simp[X0,this]
theorem Bk0(w):C4 prog 124 [.p (.str w)] [] λ h r=>h=[]/\r=Qo w:=by
 refine Dw func124 rfl Ba9 (by simp[Tryz.f124]) ?_;cases a:decide (w=[116,97,115,107]);rotate_left
 . simp only[go_sem,a];refine Dt ?_;simp only[go_sem];rw[Bg a];exact (show _=Qo _ by kernel_rfl)
 have o:=Bh a;cases b:decide (w=[99,97,110,99,101,108]);rotate_left
 . simp only[go_sem,a,b];refine Dt ?_;simp only[go_sem];rw[Bg b];exact (show _=Qo _ by kernel_rfl)
 have q:=Bh b;cases f:decide (w=[115,116,97,116,117,115]);rotate_left
 . simp only[go_sem,a,b,f];refine Dt ?_;simp only[go_sem];rw[Bg f];exact (show _=Qo _ by kernel_rfl)
 have h2:=Bh f;cases g:decide (w=[114,101,109,111,118,101]);rotate_left
 . simp only[go_sem,a,b,f,g];refine Dt ?_;simp only[go_sem];rw[Bg g];exact (show _=Qo _ by kernel_rfl)
 have s:=Bh g;cases i:decide (w=[99,108,111,115,101]);rotate_left
 . simp only[go_sem,a,b,f,g,i];refine Dt ?_;simp only[go_sem];rw[Bg i];exact (show _=Qo _ by kernel_rfl)
 have t:=Bh i;cases j:decide (w=[111,112,101,110]);rotate_left
 . simp only[go_sem,a,b,f,g,i,j];refine Dt ?_;simp only[go_sem];rw[Bg j];exact (show _=Qo _ by kernel_rfl)
 have u:=Bh j;cases k:decide (w=[97,100,100]);rotate_left
 . simp only[go_sem,a,b,f,g,i,j,k];refine Dt ?_;simp only[go_sem];rw[Bg k];exact (show _=Qo _ by kernel_rfl)
 have v:=Bh k;cases l:decide (w=[98,108,111,99,107]);rotate_left
 . simp only[go_sem,a,b,f,g,i,j,k,l];refine Dt ?_;simp only[go_sem];rw[Bg l];exact (show _=Qo _ by kernel_rfl)
 have x:=Bh l;cases m:decide (w=[102,108,101,101,116]);rotate_left
 . simp only[go_sem,a,b,f,g,i,j,k,l,m];refine Dt ?_;simp only[go_sem];rw[Bg m];exact (show _=Qo _ by kernel_rfl)
 have y:=Bh m;cases n:decide (w=[113,117,101,117,101]);rotate_left
 . simp only[go_sem,a,b,f,g,i,j,k,l,m,n];refine Dt ?_;simp only[go_sem];rw[Bg n];exact (show _=Qo _ by kernel_rfl)
 have z:=Bh n;have e:Lv w=0:=by
   unfold Lv p9;simp only[List.tail_cons];rw[HV _ _ _ _ _ _ o];rw[HV _ _ _ _ _ _ q];rw[HV _ _ _ _ _ _ t];rw[HV _ _ _ _ _ _ u];rw[HV _ _ _ _ _ _ v];rw[HV _ _ _ _ _ _ s];rw[HV _ _ _ _ _ _ h2];rw[HV _ _ _ _ _ _ x];rw[HV _ _ _ _ _ _ y];rw[HV _ _ _ _ _ _ z];rfl
 simp only[go_sem,a,b,f,g,i,j,k,l,m,n];refine Dt ?_;simp only[go_sem];simp only[Qo,e];rfl
theorem Bky(t):C4 prog 78 [.p (.str t)] [] λ h r=>h=[]/\r= .agg (Alw t).cs:=by
 have EH:=Aib t;have U:=Alg t;refine Dw func78 rfl Bfr (by simp[Tryz.f78]) ?_;simp only[go_sem];refine Cq ((Ahw t)) ?_;simp only[go_sem,PJ,G0];by_cases q:(D9 t).2.2=0;rotate_left
 . simp only[go_sem,q];refine DL ?_;simp only[go_sem];simp[Alw,q,cd0,Cd.cs]
 by_cases Q:((D9 t).1.length:Int)=1;rotate_left
 . have Ho:¬(D9 t).1.length=1:=AQ;simp only[go_sem,q,Q,G0];refine DL ?_;simp only[go_sem];simp[Alw,Ho,cd0,Cd.cs]
 have Ho:(D9 t).1.length=1:=AQ;have o:Alw t=Bpp ((D9 t).1.getD 0 ln0).fs:=by unfold Alw;rw[if_pos ⟨q,Ho⟩]
 have R:=Bh9 (D9 t).1 0 AQ;have b:=EH _ (IF (D9 t).1 0 ln0 AQ);have I:=U.2 _ (IF (D9 t).1 0 ln0 AQ);rw[o];simp only[go_sem,q,Q,Ho,G0,R];generalize ((D9 t).1.getD 0 ln0).fs=fs at*;clear o R EH U;obtain ⟨w,rest,rfl⟩:∃w rest,fs=w::rest:=by
   cases fs with
   | nil=>exact (b rfl).elim
   | cons w r=>exact ⟨w,r,rfl⟩
 simp only[Br] at I;have y:(Eg (w::rest)).getD 0 []=[.str w]:=rfl;have hlen:(Eg (w::rest)).length=rest.length+1:=by rw[DC];rfl
 have H:(0:Int)<((rest.length+1:Nat):Int):=AQ;simp only[go_sem,y,hlen,H];refine Cq ((Bk0 w)) ?_;obtain ⟨K,Y,N⟩:=Awb w;have B:=Bf4 (Lv w);have m:Bpp (w::rest)=Bbb (Lv w) (fK (Lv w)).na (fK (Lv w)).nu (w::rest):=rfl;rw[m];unfold Qo;clear K N m;generalize Lv w=j at*;generalize (fK j).na=na at*;generalize (fK j).nu=nu at*;obtain ⟨k1,k2,Z⟩:=B;have bad:(j=0∨(w::rest).length≠1+na+nu∨(((w::rest).take (1+na)).drop 1).any (λ s=>!MJ s)=true)->Bbb j na nu (w::rest)=cd0:=λ h=>by unfold Bbb;rw[if_pos h]
 have Beu:j≠0->(w::rest).length=1+na+nu->(((w::rest).take (1+na)).drop 1).any (λ s=>!MJ s)=false->Bbb j na nu (w::rest)=if nu=0 then ⟨j,if 0<na then Ab4 (w::rest) else [],if 1<na then Bez (w::rest) else [],0⟩
     else if (GP (Ab4 (w::rest))).2=true/\0<=(GP (Ab4 (w::rest))).1 then ⟨j,if 0<na then Ab4 (w::rest) else [],if 1<na then Bez (w::rest) else [],(GP (Ab4 (w::rest))).1⟩ else cd0:=by
   intro Bkb f Bkg;unfold Bbb;rw[if_neg];rintro (h | h | h)
   . exact Bkb h
   . exact h f
   . rw[Bkg] at h;cases h
 have Tw:1<(w::rest).length->(Eg (w::rest)).getD 1 []=[.str (Ab4 (w::rest))]:=λ h=>Lj _ 1 h;have u:2<(w::rest).length->(Eg (w::rest)).getD 2 []=[.str (Bez (w::rest))]:=λ h=>Lj _ 2 h;cases a:decide ((j:Int)=0);rotate_left
 . rw[bad (.inl (by have:=Bg a;omega))];by_cases b:nu=1
   . subst b;simp only[go_sem,a];refine DL ?_;simp only[go_sem];rfl
   . simp only[go_sem,a,b];refine DL ?_;simp only[go_sem];rfl
 have Bkb:j≠0:=by have:=Bh a;omega
 rw[Br] at bad Beu Tw u;by_cases b:nu=0
 . subst b;have x:i64.wrap (1+(na:Int))=((1+na:Nat):Int):=by rw[C6]<;>omega
   cases g:decide (((rest.length+1:Nat):Int)=((1+na:Nat):Int))
   . simp only[go_sem,a,hlen,x,g];refine DL ?_;simp only[go_sem];rw[bad (.inr (.inl (by have:=Bh g;omega)))];rfl
   have f:rest.length+1=1+na:=by have:=Bg g;omega
   simp only[go_sem,a,hlen,x,g];refine Dm (λ i:Nat=>⟨[(2,.ptr 2 0),(6,sD (Eg (w::rest))),(8,iD (na:Nat)),(9,bD false),(11,.ptr 11 0),(12,iD (i:Nat))],
       [(2,.box [iD 0,.p (.str []),.p (.str []),iD 0]),(11,.box [iD j,.p (.str []),.p (.str []),iD 0])],99⟩)
     (λ i=>1<=i/\i<=na+1/\(((w::rest).take i).drop 1).any (λ s=>!MJ s)=false) (λ i=>na+1 - i) 1 ⟨Bk _,AQ,AT⟩ (Wk.forget (by simp[ZF])) ?_
   rintro i n ⟨Ol,HP,Bkg⟩ T;simp only[go_sem];refine D2 (λ h2=>?_) (λ h2=>?_)
   . have V:i<=na:=by simp at h2;omega
     have Dv:i<(w::rest).length:=by rw[Br];omega
     have FC:(0:Int)<=(i:Int)/\(i:Int)<((rest.length+1:Nat):Int):=AQ;have Rz:=Lj (w::rest) i Dv;have W:=DG i AQ;have v:((w::rest).take (i+1)).drop 1=((w::rest).take i).drop 1++[(w::rest).getD i []]:=by
       rw[Cp Dv,List.drop_append_of_le_length (by rw[BJ];omega)];rw[Bu,Bp Dv];rfl
     have OZ:∀s,s∈((w::rest).take (i+1)).drop 1->s∈((w::rest).take (1+na)).drop 1:=by
       intro s S;have e:(w::rest).take (i+1)=((w::rest).take (1+na)).take (i+1):=by rw[List.take_take,CJ AQ]
       rw[e,List.drop_take] at S;exact CA S
     generalize (w::rest).getD i []=s at*;simp only[go_sem,hlen,Be,Rz,FC];refine Cq ((Ao3 s)) ?_;cases k:MJ s
     . simp only[go_sem,k];refine DL ?_;simp only[go_sem];rw[bad (.inr (.inr (Cb.2 ⟨s,OZ s (by rw[v];simp),by simp[k]⟩)))];rfl
     . simp only[go_sem,k,W];refine T (i+1) _ ⟨AQ,AQ,by rw[v,List.any_append,Bkg];simp[k]⟩ AQ (Wk.forget (by simp[ZF]))
   . have z:i=1+na:=by simp at h2;omega
     subst z;rw[Beu Bkb f Bkg];rcases na with _ | _ | _ | na
     . simp only[go_sem];refine DL ?_;simp only[go_sem];simp[Cd.cs]
     . have KI:(1:Int)<((rest.length+1:Nat):Int):=AQ;simp only[go_sem,hlen,KI,Tw AQ,Int.reduceToNat];refine DL ?_;simp only[go_sem];simp[Cd.cs]
     . have KI:(1:Int)<((rest.length+1:Nat):Int):=AQ;have JH:(2:Int)<((rest.length+1:Nat):Int):=AQ;simp only[go_sem,hlen,KI,JH,Tw AQ,u AQ,Int.reduceToNat];refine DL ?_;simp only[go_sem];simp[Cd.cs]
     . omega
 . have E:nu=1:=AQ;have Bzp:=Z b;subst E Bzp;cases g:decide (((rest.length+1:Nat):Int)=2)
   . have Bom:i64.wrap (0+1)=1:=rfl;have Bol:i64.wrap (1+1)=2:=rfl;simp only[go_sem,a,hlen,Bom,Bol,g];refine DL ?_;simp only[go_sem];rw[bad (.inr (.inl (by have:=Bh g;omega)))];rfl
   have f:rest.length+1=2:=by have:=Bg g;omega
   have Bom:i64.wrap (0+1)=1:=rfl;have Bol:i64.wrap (1+1)=2:=rfl;simp only[go_sem,a,hlen,Bom,Bol,g];refine Dm (λ i:Nat=>⟨[(2,.ptr 2 0),(6,sD (Eg (w::rest))),(8,iD 0),(9,bD true),(11,.ptr 11 0),(12,iD 1)],
       [(2,.box [.p (.int .i64 0),.p (.str []),.p (.str []),.p (.int .i64 0)]),(11,.box [.p (.int .i64 j),.p (.str []),.p (.str []),.p (.int .i64 0)])],99⟩) (λ _=>True) (λ i=>i) 0 trivial (Wk.forget (by simp[ZF])) ?_
   rintro i n _ T;have KI:(1:Int)<((rest.length+1:Nat):Int):=AQ;rw[Beu Bkb f AT];simp only[go_sem,hlen,KI,Tw AQ,Int.reduceToNat];generalize Ab4 (w::rest)=f1 at*;refine Cq ((Ad5 f1)) ?_;cases l:(GP f1).2
   . simp only[go_sem,l];refine DL ?_;simp only[go_sem];simp[cd0,Cd.cs]
   . by_cases Aoj:(GP f1).1<0
     . simp only[go_sem,l,Aoj];refine DL ?_;simp only[go_sem];have:¬0<=(GP f1).1:=AQ;simp[this,cd0,Cd.cs]
     . simp only[go_sem,l,Aoj];refine DL ?_;simp only[go_sem];have:0<=(GP f1).1:=AQ;simp[this,Cd.cs]
theorem any_take_succ{α:Type}(p:α->Bool)(l:List α)(k)(x:α)(h:k<l.length):(l.take (k+1)).any p=((l.take k).any p||p (l.getD k x)):=by
 rw[Hh l k x h,List.any_append];simp
theorem QJ(l)(i:Nat):((CT l)[i]?.getD []).tail=[]:=by
 unfold CT;rw[BC];cases l[i]?<;>rfl
theorem Alo(g)(sh)(ET)(hg:PQ g)(t:sh.length=g.length)(Pm:ET<g.length):
   C4 prog 110 [sD (DA g),sD (Dn sh),iD (ET:Nat)] [] λ h r=>h=[]/\r=sD (CT (IG g sh ET)):=by
 have hlen:=hg.1;refine Dw func110 rfl Aii (by simp[Tryz.f110]) ?_;simp only[go_sem,Du];refine ⟨AQ,?_⟩;refine Dm (λ q:Nat×Aa=>⟨[(0,sD (DA g)),(1,sD (Dn sh)),(2,iD (ET:Nat)),(7,rD 14 g),(8,iD (q.1:Nat))],[(14,.arr 3 1 (CT q.2))],82⟩)
   (λ q=>q.1<=g.length/\q.2.length=g.length/\∀j,j<q.1->q.2.getD j 0=-1) (λ q=>g.length - q.1) (0,List.replicate g.length 0) ⟨BO _,AT,λ j S=>absurd S (B5 _)⟩ (Wk.forget A9) ?_
 rintro ⟨i,o⟩ m ⟨hi,y,hm⟩ ih;simp only at hi y hm;simp only[go_sem,Du];refine D2 (λ h2=>?_) (λ h2=>?_)
 . have Dv:i<g.length:=by simp at h2;omega
   have hw:=DG i AQ;have FC:(0:Int)<=(i:Int)/\(i:Int)<(g.length:Int):=AQ;simp only[go_sem,C1,y,Be,FC,hw];refine ih (i+1,o.set i (-1)) _ ⟨Dv,by simpa using y,λ j S=>?_⟩ A0 ?_
   . rw[MU];by_cases e:i=j
     . rw[if_pos ⟨e,AQ⟩]
     . rw[if_neg (λ h=>e h.1)];exact hm j AQ
   . (refine Wk.forget ?_;simp[ZF,Ow,QJ];done)
 have a1:i=g.length:=by simp at h2;omega
 subst a1;have a2:o=List.replicate g.length (-1):=by
   refine List.ext_getElem (by simp[y]) λ j K Y=>?_;have:=hm j AQ;rw[getD_eq K] at this
   simpa using this
 subst a2;clear ih hm;have Bzx:=QE sh ET AQ;have N:(0:Int)<=(ET:Int)/\(ET:Int)<(g.length:Int):=AQ;simp only[go_sem,J6,t,Be,Bzx,N];cases hs:sh.getD ET false;rotate_left
 . simp only[go_sem,hs];refine Dt ?_;simp only[go_sem];unfold IG;rw[if_pos hs];simp[CT]
 simp only[go_sem,hs,C1,B1,Be,N];have a0:IG g sh ET=Yq g sh (g.length - 1) 1 ((List.replicate g.length (-1)).set ET 0):=by unfold IG;rw[if_neg (by rw[hs];simp)]
 refine Dm (λ q:Nat×Aa=>⟨[(0,sD (DA g)),(1,sD (Dn sh)),(7,rD 14 g),(9,iD (q.1:Nat))],[(14,.arr 3 1 (CT q.2))],82⟩)
   (λ q=>1<=q.1/\q.1<=24/\q.2.length=g.length/\Yq g sh (g.length - q.1) q.1 q.2=IG g sh ET) (λ q=>g.length - q.1) (1,(List.replicate g.length (-1)).set ET 0) ⟨Bk _,AQ,AT,a0.symm⟩ (Wk.forget (by simp[ZF,Ow,QJ])) ?_
 rintro ⟨d,o⟩ m2 ⟨Sr,Ca3,y,x⟩ ih;simp only at Sr Ca3 y x;simp only[go_sem,Du];refine D2 (λ K=>?_) (λ K=>?_);rotate_left
 . simp only[go_sem];refine Dt ?_;simp only[go_sem];have:g.length - d=0:=by simp at K;omega
   rw[this] at x;simp only[Yq] at x;rw[<-x,Bx (by rw[C1];omega)];try simp[C1,y]
 have a6:d<g.length:=by simp at K;omega
 have a4:=DG d AQ;have a5:i64.wrap ((d:Int) - 1)=(d:Int) - 1:=by rw[C6]<;>omega
 rw[show g.length - d=(g.length - (d+1))+1 by omega] at x;simp only[Yq] at x;generalize hT:Vc g sh d g.length 0 o=T at x;simp only[go_sem];refine Dm (λ q:Nat×Aa=>⟨[(0,sD (DA g)),(1,sD (Dn sh)),(7,rD 14 g),(9,iD (d:Nat)),(10,iD (q.1:Nat))],[(14,.arr 3 1 (CT q.2))],82⟩)
   (λ q=>q.1<=g.length/\q.2.length=g.length/\Vc g sh d (g.length - q.1) q.1 q.2=T) (λ q=>g.length - q.1) (0,o) ⟨BO _,y,hT⟩ (Wk.forget (by simp[ZF])) ?_
 rintro ⟨v,a⟩ m3 ⟨hv,f,b⟩ E;simp only at hv f b;simp only[go_sem,Du];refine D2 (λ Y=>?_) (λ Y=>?_);rotate_left
 . have:g.length - v=0:=by simp at Y;omega
   rw[this] at b;simp only[Vc] at b;simp only[go_sem,a4];refine ih (d+1,a) _ ⟨AQ,AQ,f,by rw[b];exact x⟩ A0 ?_
   (refine Wk.forget ?_;simp[ZF];done)
 have n:v<g.length:=by simp at Y;omega
 have B:=DG v AQ;rw[show g.length - v=(g.length - (v+1))+1 by omega] at b;simp only[Vc] at b;have s:=QE sh v AQ;have p:=Fs a v AQ;have l:(0:Int)<=(v:Int)/\(v:Int)<(g.length:Int):=AQ;cases H:sh.getD v false;rotate_left
 . simp only[go_sem,J6,C1,t,f,Be,s,p,l,H,B];refine E (v+1,a) _ ⟨n,f,?_⟩ A0 ?_
   . rw[<-b];unfold WV;rw[if_pos (.inl H)]
   . (refine Wk.forget ?_;simp[ZF];done)
 cases I:decide (0<=a.getD v 0);rotate_left
 . simp only[go_sem,J6,C1,t,f,Be,s,p,l,H,I,B];refine E (v+1,a) _ ⟨n,f,?_⟩ A0 ?_
   . rw[<-b];unfold WV;rw[if_pos (.inr (Bg I))]
   . (refine Wk.forget ?_;simp[ZF];done)
 simp only[go_sem,J6,C1,t,f,Be,s,p,l,H,I];have Ly:WV g sh d v a=if (g.getD v []).any (λ w=>decide (a.getD w.toNat 0=(d:Int) - 1))=true then a.set v d else a:=by
   unfold WV;rw[if_neg (by
     rintro (h | h)
     . rw[H] at h;cases h
     . exact Bh I h)]
 rw[Ly] at b;have El:∀k,k<(g.getD v []).length->∃w:Nat,(g.getD v []).getD k 0=(w:Int)/\w<g.length/\w≠v:=λ k hk=>Acn hg n hk;have a7:(g.getD v []).length<=24:=by
   have hP:=hg.2 v n;have key:∀k,k<=(g.getD v []).length->∀j,j<k->(j:Int)<=(g.getD v []).getD j 0:=by
     intro k
     induction k with
     | zero=>intro _ j S;omega
     | succ k V=>
       intro hk j S;rcases BK.1 S with z | rfl
       . exact V AQ j z
       . have Z:=hP j AQ;unfold To at Z;rcases j with _ | j
         . exact Z.1
         . have h7:=V AQ j AQ;have h8:=Z.2.2.2 AQ;rw[show j+1 - 1=j from rfl] at h8;omega
   rcases Nat.eq_zero_or_pos (g.getD v []).length with z | z
   . omega
   . have Z:=key _ (Bk _) ((g.getD v []).length - 1) AQ;obtain ⟨w,h7,h8,_⟩:=El ((g.getD v []).length - 1) AQ;omega
 have Q:=QL g v n;generalize g.getD v []=row at*;clear Ly H I s p;refine Dm (λ k:Nat=>⟨[(0,sD (DA g)),(1,sD (Dn sh)),(7,rD 14 g),(9,iD (d:Nat)),(10,iD (v:Nat)),(11,iD (k:Nat))],
     [(14,.arr 3 1 (CT (if (row.take k).any (λ w=>decide (a.getD w.toNat 0=(d:Int) - 1))=true then a.set v d else a)))],82⟩)
   (λ k=>k<=row.length) (λ k=>row.length - k) 0 (BO _) (Wk.forget (by simp[ZF])) ?_
 rintro k m4 hk Wi;simp only[go_sem,Du,C1,Be,Q,l];refine D2 (λ z=>?_) (λ z=>?_);rotate_left
 . have:k=row.length:=by simp at z;omega
   subst this;rw[BE];clear Wi;generalize row.any (λ w=>decide (a.getD w.toNat 0=(d:Int) - 1))=an at*;simp only[go_sem,B];refine E (v+1,if an=true then a.set v d else a) _ ⟨n,?_,b⟩ A0 ?_
   . simp only;split<;>simp[f]
   . (refine Wk.forget ?_;simp[ZF];done)
 have Uu:k<row.length:=by simp at z;omega
 have Rx:=DG k AQ;obtain ⟨w,hw,a8,Bz7⟩:=El k Uu;have U3:=Fs row k Uu;rw[hw] at U3;have Km:(0:Int)<=(k:Int)/\(k:Int)<(row.length:Int):=AQ;have a3:(0:Int)<=(w:Int)/\(w:Int)<(g.length:Int):=AQ;have u:=any_take_succ (λ w=>decide (a.getD w.toNat 0=(d:Int) - 1)) row k 0 Uu;rw[hw] at u;simp only[Be] at u;generalize (row.take k).any (λ w=>decide (a.getD w.toNat 0=(d:Int) - 1))=an at*;have U:(if an=true then a.set v d else a).length=g.length:=by split<;>simp[f]
 have R:=Fs (if an=true then a.set v d else a) w AQ;have Bzw:(if an=true then a.set v d else a).getD w 0=a.getD w 0:=by
   split
   . rw[MU,if_neg (λ h=>Bz7 h.1.symm)]
   . rfl
 rw[Bzw] at R;have Aay:(if an=true then a.set v d else a).set v d=a.set v d:=by split<;>simp
 generalize hq:(if an=true then a.set v d else a)=q at*;simp only[go_sem,Du,C1,Be,Q,l,U3,Km,U,R,a3,a5];cases W:decide (a.getD w 0=(d:Int) - 1)
 . simp only[go_sem,W,Rx];refine Wi (k+1) _ Uu AQ ?_;rw[u,W,Bool.or_false,hq]
   (refine Wk.forget ?_;simp[ZF];done)
 . simp only[go_sem,W,Rx,C1,U,Be,l];refine Wi (k+1) _ Uu AQ ?_;rw[u,W,Bool.or_true,if_pos rfl,<-Aay,Ow]
   (refine Wk.forget ?_;simp[ZF,QJ];done)
theorem Bbc(g)(sh)(e:YW g):C4 prog 66 [sD (DA g),sD (Dn sh)] [] λ h r=>h=[]/\r=iD (if PQ g then (if sh.length=g.length then 0 else 19) else 20):=by
 refine Dw func66 rfl Ap4 (by simp[Tryz.f66]) ?_;simp only[go_sem];refine Cq ((Awg g e)) ?_;cases a:decide (PQ g)
 . simp only[go_sem,a];rw[if_neg (Bh a)]
 simp only[go_sem,a,J6,Du];rw[if_pos (Bg a)];cases b:decide ((sh.length:Int)=(g.length:Int))
 . simp only[go_sem,b];rw[if_neg (λ h=>Bh b AQ)]
 . simp only[go_sem,b];rw[if_pos (by have:=Bg b;omega)]
def At6(g:Ab)(D:Aa)(v:Nat):Int:=if 0<D.getD v 0 then ((g.getD v []).find? (λ w=>decide (D.getD w.toNat 0=D.getD v 0 - 1))).getD (-1) else -1
theorem Aj9{g}(a:PQ g)(sh){ET}(Pm:ET<g.length){v}(b:v<g.length):-1<=(IG g sh ET).getD v 0/\(IG g sh ET).getD v 0<=24:=by
 rcases (Aq8 a sh ET Pm).2 v b with h | h | h<;>omega
theorem Av2{g}(f:PQ g){u}(m:u<g.length):(g.getD u []).length<=24:=by
 have o:=f.2 u m;have key:∀k,k<=(g.getD u []).length->∀j,j<k->(j:Int)<=(g.getD u []).getD j 0:=by
   intro k
   induction k with
   | zero=>intro _ j l;omega
   | succ k a=>
     intro p j l;rcases BK.1 l with e | rfl
     . exact a AQ j e
     . have b:=o j AQ;unfold To at b;rcases j with _ | j
       . exact b.1
       . have n:=a AQ j AQ;have i:=b.2.2.2 AQ;rw[show j+1 - 1=j from rfl] at i;omega
 have q:=f.1;rcases Nat.eq_zero_or_pos (g.getD u []).length with e | e
 . omega
 . have b:=key _ (Bk _) ((g.getD u []).length - 1) AQ;obtain ⟨w,n,i,_⟩:=Acn f m (k:=(g.getD u []).length - 1) AQ;omega
def jm1(j:Nat):Int:=(j:Int) - 1
theorem Bka(g)(sh)(ET)(z:PQ g)(Z:sh.length=g.length)(Pm:ET<g.length):
   C4 prog 161 [sD (DA g),sD (Dn sh),iD (ET:Nat)] [] λ h r=>h=[]/\∃o:Aa,r=sD (CT o)/\o.length=g.length/\∀v,v<g.length->o.getD v 0=At6 g (IG g sh ET) v:=by
 have hlen:=z.1;have i:=Zq g sh ET;have U:∀v,v<g.length->-1<=(IG g sh ET).getD v 0/\(IG g sh ET).getD v 0<=24:=λ v hv=>Aj9 z sh Pm hv;have hd:=Alo g sh ET z Z Pm;refine Dw func161 rfl Aic (by simp[Tryz.f161]) ?_;simp only[go_sem];refine Cq ((hd)) ?_;generalize IG g sh ET=ds at*;clear hd;simp only[go_sem,Du];refine ⟨AQ,?_⟩;refine Dm (λ q:Nat×Aa=>⟨[(0,sD (DA g)),(7,sD (CT ds)),(8,rD 18 g),(9,iD (q.1:Nat))],[(18,.arr 3 1 (CT q.2))],67⟩)
   (λ q=>q.1<=g.length/\q.2.length=g.length/\∀v,v<q.1->q.2.getD v 0=At6 g ds v) (λ q=>g.length - q.1) (0,List.replicate g.length 0) ⟨BO _,AT,λ j hj=>absurd hj (B5 _)⟩ (Wk.forget A9) ?_
 rintro ⟨v,o⟩ m ⟨hv,t,Fx⟩ ih;simp only at hv t Fx;simp only[go_sem,Du];refine D2 (λ h2=>?_) (λ h2=>?_);rotate_left
 . simp only[go_sem];refine Dt ?_;simp only[go_sem];have:v=g.length:=by simp at h2;omega
   subst this;refine ⟨by rw[C1];omega,o,?_,t,Fx⟩;rw[Bx (by rw[C1];omega)]
 have a:v<g.length:=by simp at h2;omega
 have R:=DG v AQ;have b:(0:Int)<=(v:Int)/\(v:Int)<(g.length:Int):=AQ;have E:=QL g v a;have El:∀k,k<(g.getD v []).length->∃w:Nat,(g.getD v []).getD k 0=(w:Int)/\w<g.length/\w≠v:=λ k hk=>Acn z a hk;have a7:=Av2 z a;have l:=Fs ds v AQ;have a3:=U v a;have H:At6 g ds v=if 0<ds.getD v 0 then ((g.getD v []).find? (λ w=>decide (ds.getD w.toNat 0=ds.getD v 0 - 1))).getD (-1) else -1:=rfl
 generalize g.getD v []=row at*;generalize a6:ds.getD v 0=dv at*;have a2:i64.wrap ((row.length:Int) - 1)=jm1 row.length:=by unfold jm1;rw[C6]<;>omega
 simp only[go_sem,Du,C1,t,Be,b,E,a2];refine Dm (λ j:Nat=>⟨[(0,sD (DA g)),(7,sD (CT ds)),(8,rD 18 g),(9,iD (v:Nat)),(10,iD (jm1 j))],
     [(18,.arr 3 1 (CT (o.set v (((row.drop j).find? (λ w=>decide (ds.getD w.toNat 0=dv - 1))).getD (-1)))))],67⟩)
   (λ j=>j<=row.length/\(j=row.length∨0<dv)) (λ j=>j) row.length ⟨Bk _,.inl rfl⟩ (Wk.forget (by simp[ZF,Ow,QJ,List.drop_length])) ?_
 rintro j m2 ⟨hj,K⟩ Wi;have Aay:∀x,∀u,u<v+1->x=At6 g ds v->(o.set v x).getD u 0=At6 g ds u:=λ x u T hx=>by
   rw[MU];by_cases e:v=u
   . subst e;rw[if_pos ⟨rfl,AQ⟩];exact hx
   . rw[if_neg (λ h=>e h.1)];exact Fx u AQ
 rcases j with _ | j
 . have hz:¬(0:Int)<=jm1 0:=by unfold jm1;omega
   simp only[go_sem,hz,R];refine ih (v+1,o.set v ((row.find? (λ w=>decide (ds.getD w.toNat 0=dv - 1))).getD (-1))) _ ⟨a,by simp[t],λ u T=>Aay _ u T ?_⟩ A0 ?_
   . rw[H];rcases K with f | f
     . have:row=[]:=List.length_eq_zero_iff.1 f.symm;subst this;simp
     . rw[if_pos f]
   . (refine Wk.forget ?_;simp[ZF];done)
 . have I:jm1 (j+1)=(j:Int):=by unfold jm1;omega
   have N:(0:Int)<=(j:Int):=AQ;have Q:i64.wrap ((j:Int) - 1)=jm1 j:=by unfold jm1;rw[C6]<;>omega
   cases s:decide (0<dv)
   . have Y:j+1=row.length:=by
       rcases K with f | f
       . exact f
       . exact absurd f (Bh s)
     have Ben:row.drop (j+1)=[]:=by rw[Y];simp
     rw[Ben];simp only[go_sem,I,N,C1,i,Be,b,l,s,R];refine ih (v+1,o.set v (-1)) _ ⟨a,by simp[t],λ u T=>Aay _ u T ?_⟩ A0 ?_
     . rw[H,if_neg (Bh s)]
     . (refine Wk.forget ?_;simp[ZF];done)
   have n:j<row.length:=AQ;obtain ⟨w,hw,a4,a5⟩:=El j n;have B:=Fs row j n;rw[hw] at B;have W:(0:Int)<=(j:Int)/\(j:Int)<(row.length:Int):=AQ;have a0:(0:Int)<=(w:Int)/\(w:Int)<(g.length:Int):=AQ;have V:=Fs ds w AQ;have a1:i64.wrap (dv - 1)=dv - 1:=by rw[C6]<;>omega
   have y:row.drop j=(w:Int)::row.drop (j+1):=by rw[Ic row j 0 n,hw]
   simp only[go_sem,I,N,C1,Du,i,Be,b,l,s,E,B,W];refine PW mixed (p:=[(0,0),(1,0),(2,0),(3,0),(4,0),(5,0),(6,0),(7,0),(8,0),(9,0)]) AX A8 ?_;simp only[go_sem,C1,i,Be,b,l,V,a0,a1];cases S:decide (ds.getD w 0=dv - 1)
   . simp only[go_sem,S,Q];refine Wi j _ ⟨AQ,.inr (Bg s)⟩ AQ ?_;rw[y,List.find?_cons_of_neg (by simp only[Be];simpa using Bh S)]
     (refine Wk.forget ?_;simp[ZF];done)
   . simp only[go_sem,S,Q,C1,Bv,t,Be,b];refine Wi j _ ⟨AQ,.inr (Bg s)⟩ AQ ?_;rw[y,List.find?_cons_of_pos (by simp only[Be];exact S)];generalize ((row.drop (j+1)).find? (λ w=>decide (ds.getD w.toNat 0=dv - 1))).getD (-1)=y0;rw[show o.set v ((some (w:Int)).getD (-1))=(o.set v y0).set v (w:Int) by simp,Ow (o.set v y0)]
     (refine Wk.forget ?_;simp[ZF,QJ];done)
theorem Amm(l):P0 1 (CT l):=by
 intro e a;unfold CT at a;obtain ⟨x,_,rfl⟩:=BR.1 a;rfl
theorem Beb{g}(i:PQ g)(sh){ET cur}(Pm:ET<g.length)(f:cur<g.length)(EH:cur≠ET)(h0:0<=(IG g sh ET).getD cur 0):
   ∃w:Nat,At6 g (IG g sh ET) cur=(w:Int)/\w<g.length/\(IG g sh ET).getD w 0=(IG g sh ET).getD cur 0 - 1/\1<=(IG g sh ET).getD cur 0:=by
 have a:=(Aq8 i sh ET Pm).2 cur f;generalize IG g sh ET=ds at*;rcases a with h | h | ⟨l,h2,w,m,n⟩
 . omega
 . exact absurd h.2 EH
 . unfold At6;rw[if_pos AQ];have q:((g.getD cur []).find? (λ w=>decide (ds.getD w.toNat 0=ds.getD cur 0 - 1))).isSome:=by
     rw[List.find?_isSome];exact ⟨w,m,Bi n⟩
   obtain ⟨u,e⟩:=Cj.1 q;have o:=List.mem_of_find?_eq_some e;have p:ds.getD u.toNat 0=ds.getD cur 0 - 1:=by have:=List.find?_some e;simpa using this
   obtain ⟨k,j,b⟩:=Cg.1 o;obtain ⟨x,MR,Kl,_⟩:=Acn i f j;rw[getD_eq j,b] at MR;rw[e];subst MR;exact ⟨x,rfl,Kl,by simpa using p,l⟩
theorem Bf2(g)(sh)(src ET)(k:PQ g)(j:sh.length=g.length)(Pm:ET<g.length)(Axn:src<g.length)(h0:0<=(IG g sh ET).getD src 0):
   C4 prog 111 [sD (DA g),sD (Dn sh),iD (src:Nat),iD (ET:Nat)] [] λ h r=>h=[]/\∃o:Aa,r=sD (CT o)/\1<=o.length/\o.length<=26:=by
 have n:=Zq g sh ET;have Bsr:∀cur,cur<g.length->cur≠ET->0<=(IG g sh ET).getD cur 0->_:=λ cur a EH h=>Beb k sh Pm a EH h;have Bsk:=(Aj9 k sh Pm Axn).2;have z:=Alo g sh ET k j Pm;have E:=Bka g sh ET k j Pm;refine Dw func111 rfl Zj (by simp[Tryz.f111]) ?_;simp only[go_sem];refine Cq ((z)) ?_;generalize IG g sh ET=ds at*;clear z;have p:=Fs ds src AQ;have v:(0:Int)<=(src:Int)/\(src:Int)<(g.length:Int):=AQ;have Aoj:¬ds.getD src 0<0:=AQ;simp only[go_sem,C1,n,Be,p,v,Aoj];refine GJ E ?_;rintro N r ⟨rfl,B,rfl,t,u⟩;simp only[go_sem];refine Dm (λ q:Nat×Aa=>⟨[(2,iD (q.1:Nat)),(3,iD (ET:Nat)),(9,sD (CT B)),(10,rD 24 q.2)],[(24,.arr 3 1 (CT q.2))],37⟩)
   (λ q=>q.1<g.length/\0<=ds.getD q.1 0/\1<=q.2.length/\(q.2.length:Int)+ds.getD q.1 0<=25) (λ q=>(ds.getD q.1 0).toNat) (src,[(src:Int)]) ⟨Axn,h0,Bk _,by show ((1:Nat):Int)+ds.getD src 0<=25;omega⟩ (Wk.forget A9) ?_
 rintro ⟨cur,o⟩ m ⟨a,b,i,s⟩ K;simp only at a b i s;simp only[go_sem];cases l:decide ((cur:Int)=(ET:Int))
 . have EH:cur≠ET:=λ e=>Bh l (by rw[e]);obtain ⟨w,x,y,H,I⟩:=Bsr cur a EH b;have f:=Fs B cur AQ;rw[u cur a,x] at f;have XS:(0:Int)<=(cur:Int)/\(cur:Int)<(g.length:Int):=AQ;simp only[go_sem,l,C1,t,Be,f,XS];refine ⟨⟨Lr _ _ rfl,AQ⟩,?_⟩;refine K (w,o++[(w:Int)]) _ ⟨y,by simp only;omega,AT,by show (((o++[(w:Int)]).length:Nat):Int)+ds.getD w 0<=25;rw[Bw,CM];omega⟩ A0 ?_
   (refine Wk.forget ?_;simp[ZF,L8,C1];done)
 . simp only[go_sem,l];refine Dt ?_;simp only[go_sem];refine ⟨by rw[C1],o,?_,i,AQ⟩;rw[Uz _ _ (Bk _)]
theorem Arz(g)(sh)(v)(I:PQ g)(n:sh.length=g.length)(H:v<g.length):
   C4 prog 67 [sD (DA g),sD (Dn sh),iD (v:Nat)] [] λ h r=>h=[]/\∃o:Aa,r=sD (CT o)/\o.length<=30:=by
 have a:=Zq g sh v;have V:=Alo g sh v I n H;have Y:=λ src E W=>Bf2 g sh src v I n H E W;have y:=QE sh v AQ;have s:(0:Int)<=(v:Int)/\(v:Int)<(g.length:Int):=AQ;refine Dw func67 rfl Ap3 (by simp[Tryz.f67]) ?_;simp only[go_sem,J6,n,Be,y,s];cases E:sh.getD v false;rotate_left
 . simp only[go_sem,E];refine Dt ?_;simp only[go_sem];exact ⟨[],rfl,AT⟩
 simp only[go_sem,E];refine Cq ((V)) ?_;generalize IG g sh v=ds at*;clear V E y;have El:∀k,k<(g.getD v []).length->∃w:Nat,(g.getD v []).getD k 0=(w:Int)/\w<g.length/\w≠v:=λ k Q=>Acn I H Q;have a1:=Av2 I H;have z:=QL g v H;generalize g.getD v []=row at*;simp only[go_sem];refine Dm (λ q:Nat×Int=>⟨[(0,sD (DA g)),(1,sD (Dn sh)),(2,iD (v:Nat)),(7,sD (CT ds)),(8,iD q.2),(9,iD (q.1:Nat))],[],72⟩)
   (λ q=>q.1<=row.length/\(q.2=-1∨∃b:Nat,q.2=(b:Int)/\b<g.length/\0<=ds.getD b 0)) (λ q=>row.length - q.1) (0,-1) ⟨BO _,.inl rfl⟩ (Wk.forget (by simp[ZF])) ?_
 rintro ⟨k,N⟩ m ⟨Q,hb⟩ K;simp only at Q hb;simp only[go_sem,Du,C1,Be,z,s];refine D2 (λ U=>?_) (λ U=>?_)
 . have Uu:k<row.length:=by simp at U;omega
   have Rx:=DG k AQ;obtain ⟨w,hw,R,_⟩:=El k Uu;have U3:=Fs row k Uu;rw[hw] at U3;have Km:(0:Int)<=(k:Int)/\(k:Int)<(row.length:Int):=AQ;have i:(0:Int)<=(w:Int)/\(w:Int)<(g.length:Int):=AQ;have e:=Fs ds w AQ;simp only[go_sem,Du,C1,Be,z,s,U3,Km];refine PW mixed (p:=[(0,0),(1,0),(2,0),(3,0),(4,0),(5,0),(6,0),(7,0),(8,0),(9,0),(10,0),(11,0),(12,0),(13,0),(14,0),(15,0),(16,0),(17,0),(18,0),(19,0)]) AX A8 ?_;cases t:decide (0<=ds.getD w 0)
   . simp only[go_sem,C1,a,Be,e,i,t,Rx];refine K (k+1,N) _ ⟨Uu,hb⟩ A0 ?_
     (refine Wk.forget ?_;simp[ZF];done)
   have B:∃b:Nat,(w:Int)=(b:Int)/\b<g.length/\0<=ds.getD b 0:=⟨w,rfl,R,Bg t⟩;rcases hb with rfl | ⟨b,rfl,l,j⟩
   . simp only[go_sem,C1,a,Be,e,i,t,Rx];refine K (k+1,(w:Int)) _ ⟨Uu,.inr B⟩ A0 ?_
     (refine Wk.forget ?_;simp[ZF];done)
   . have u:=Fs ds b AQ;have x:(0:Int)<=(b:Int)/\(b:Int)<(g.length:Int):=AQ;have f:¬(b:Int)<0:=AQ;cases T:decide (ds.getD w 0<ds.getD b 0)
     . simp only[go_sem,C1,a,Be,e,i,t,f,u,x,T,Rx];refine K (k+1,(b:Int)) _ ⟨Uu,.inr ⟨b,rfl,l,j⟩⟩ A0 ?_
       (refine Wk.forget ?_;simp[ZF];done)
     . simp only[go_sem,C1,a,Be,e,i,t,f,u,x,T,Rx];refine K (k+1,(w:Int)) _ ⟨Uu,.inr B⟩ A0 ?_
       (refine Wk.forget ?_;simp[ZF];done)
 . rcases hb with rfl | ⟨b,rfl,l,j⟩
   . simp only[go_sem];refine Dt ?_;simp only[go_sem];exact ⟨[],rfl,AT⟩
   . have f:¬(b:Int)<0:=AQ;simp only[go_sem,f];refine GJ (Y b l j) ?_;rintro h' r ⟨rfl,o,rfl,Z,a0⟩;have S:i64.wrap ((o.length:Int) - 1)=((o.length - 1:Nat):Int):=by rw[C6]<;>omega
     simp only[go_sem,C1,S,Be,Aem];have R6:(o.take (o.length - 1)).length<=o.length:=AT;refine ⟨⟨AQ,Amm _⟩,?_⟩;refine ⟨⟨Amm _,AQ⟩,?_⟩;refine Dt ?_;simp only[go_sem];refine ⟨?_,(v:Int)::o.take (o.length - 1),?_,AW⟩
     . simp[CT]
     . simp[CT,List.take_take]
theorem Bew(g)(sh)(n:PQ g)(y:YW g)(i:sh.length=g.length):
   C4 prog 36 [sD (DA g),sD (Dn sh)] [] λ h r=>h=[]/\∃o:Aa,r= .Em [iD (o.length:Nat),sD (CT o),iD 0]/\o.length<=30:=by
 have x:=λ v p=>Arz g sh v n i p;have B:=n.1;refine Dw func36 rfl Apa (by simp[Tryz.f36]) ?_;simp only[go_sem];refine Cq ((Bbc g sh y)) ?_;rw[if_pos n,if_pos i];simp only[go_sem];refine Dm (λ q:Nat×Aa=>⟨[(0,sD (DA g)),(1,sD (Dn sh)),(8,sD (CT q.2)),(9,iD (q.1:Nat))],[],46⟩)
   (λ q=>q.1<=g.length/\q.2.length<=30) (λ q=>g.length - q.1) (0,[]) ⟨BO _,AT⟩ ((Wk.nil (t:=8) (q:=42) (sz:=1) 3 rfl rfl AV).trans ((Wk.pure (t:=8) (id:=42) (sz:=1) (e:=3) (es:=[]) rfl rfl).trans (Wk.forget A9))) ?_
 rintro ⟨v,a⟩ m ⟨p,hb⟩ k;simp only at p hb;simp only[go_sem,Du];refine D2 (λ u=>?_) (λ u=>?_)
 . have b:v<g.length:=by simp at u;omega
   have f:=DG v AQ;simp only[go_sem];refine GJ (x v b) ?_;rintro z r ⟨rfl,o,rfl,w⟩;simp only[go_sem,C1];cases j:decide (0<(o.length:Int))
   . simp only[go_sem,C1,j,f];refine k (v+1,a) _ ⟨b,hb⟩ A0 ?_
     (refine Wk.forget ?_;simp[ZF];done)
   cases l:decide ((a.length:Int)=0);rotate_left
   . simp only[go_sem,C1,j,l,f];refine k (v+1,o) _ ⟨b,w⟩ A0 ?_
     (refine Wk.forget ?_;simp[ZF];done)
   cases s:decide ((o.length:Int)<(a.length:Int))
   . simp only[go_sem,C1,j,l,s,f];refine k (v+1,a) _ ⟨b,hb⟩ A0 ?_
     (refine Wk.forget ?_;simp[ZF];done)
   . simp only[go_sem,C1,j,l,s,f];refine k (v+1,o) _ ⟨b,w⟩ A0 ?_
     (refine Wk.forget ?_;simp[ZF];done)
 . simp only[go_sem,C1];refine Dt ?_;simp only[go_sem];exact ⟨a,rfl,hb⟩
def OL(n:Nt):Int:=(n.blocks.length:Int)+GO n.CV
theorem Ah8{a}{l}(h:JN a l):∀(k i:Nat),i+k<=l.length->GO (l.take i)<=GO (l.take (i+k))
 | 0,_,_=>Int.le_refl _
 | k+1,i,f=>by
   have b:=Ah8 h k i AQ;have h2:=h (i+k) AQ;obtain ⟨_,_,_,_,e,_,_⟩:=h2;rw[show i+(k+1)=(i+k)+1 by omega,Hh l (i+k) E3 AQ,IN];omega
theorem S9{a}{l}(h:JN a l){i}(b:i<l.length):
   (a:Int)<=(l.getD i E3).base/\(l.getD i E3).base+(l.getD i E3).Ei<=(a:Int)+GO l/\(l.getD i E3).base=(a:Int)+GO (l.take i):=by
 obtain ⟨_,_,_,_,f,g,k⟩:=h i b;have e:=S4 a l i AQ (λ j m=>h j AQ);have h2:=Ah8 h (l.length - (i+1)) (i+1) AQ;rw[show i+1+(l.length - (i+1))=l.length by omega,BE,Hh l i E3 b,IN] at h2;omega
theorem S5{a}{l}(h:JN a l):0<=GO l/\GO l<=4*l.length:=by
 have:=S4 a l l.length (Bk _) h;rw[BE] at this;exact this
theorem Bht(n)(g:validN n):C4 prog 38 [.agg n.cs] [] λ h r=>h=[]/\r=iD (OL n):=by
 obtain ⟨e,p,q,s,t,QZ,u,v⟩:=g;have Bke:=e.2.1;refine Dw func38 rfl Ap8 (by simp[Tryz.f38]) ?_;simp only[go_sem,Nt.cs,DB];refine Dm (λ i:Nat=>⟨[(1,.ptr 1 0),(3,iD ((n.blocks.length:Int)+GO (n.CV.take i))),(4,iD (i:Nat))],[(1,.box (Nt.cs n))],24⟩)
   (λ i=>i<=n.CV.length) (λ i=>n.CV.length - i) 0 (BO _) (Wk.forget (by simp[ZF,Nt.cs,GO])) ?_
 rintro i m w o;simp only[go_sem,Nt.cs,Ea];refine D2 (λ h2=>?_) (λ h2=>?_)
 . have Dv:i<n.CV.length:=by simp at h2;omega
   have l:=DG i AQ;have f:=Ov n.CV i Dv;have FC:(0:Int)<=(i:Int)/\(i:Int)<(n.CV.length:Int):=AQ;have k:=S4 n.blocks.length n.CV (i+1) Dv (λ j x=>QZ j AQ);have a:GO (n.CV.take (i+1))=GO (n.CV.take i)+(n.CV.getD i E3).Ei:=by rw[Hh n.CV i E3 Dv,IN]
   rw[a] at k;have b:i64.wrap ((n.blocks.length:Int)+GO (n.CV.take i)+(n.CV.getD i E3).Ei)=(n.blocks.length:Int)+GO (n.CV.take i)+(n.CV.getD i E3).Ei:=by rw[C6]<;>omega
   simp only[go_sem,Nt.cs,Ea,Be,f,FC,b,l];refine o (i+1) _ Dv AQ ?_
   (refine Wk.forget ?_;simp[ZF,Nt.cs,a,Int.add_assoc];done)
 . simp only[go_sem];have:i=n.CV.length:=by simp at h2;omega
   subst this;rw[BE];rfl
def XB(sh:Ad)(s:Su):Bool:=!sh.getD s.PK.toNat false&&(!sh.getD s.out.toNat false&&(List.range s.Ei.toNat).all λ j=>!sh.getD (s.base.toNat+j) false)
theorem Bjp(n)(R:validN n)(sh)(z:(sh.length:Int)=OL n)(s)(x:s<n.CV.length):
   C4 prog 68 [.agg n.cs,sD (Dn sh),iD (s:Nat)] [] λ h r=>h=[]/\r=bD (XB sh (n.CV.getD s E3)):=by
 obtain ⟨N,e2,e3,e4,e5,QZ,e7,e8⟩:=R;have Bke:=N.2.1;obtain ⟨T,U,V,W,Y,Z,i7⟩:=QZ s x;obtain ⟨r1,r2,r3⟩:=S9 QZ x;have Fx:=S5 QZ;have I:=Ov n.CV s x;have y:(0:Int)<=(s:Int)/\(s:Int)<(n.CV.length:Int):=AQ;unfold OL at z;refine Dw func68 rfl Ap2 (by simp[Tryz.f68]) ?_;simp only[go_sem,Nt.cs,Ea,Be,I,y];generalize n.CV.getD s E3=sp at*;clear I;obtain ⟨K,H,PK,out,sl,E⟩:=sp;simp only at T U V W Y Z i7 r1 r2 r3;obtain ⟨a,rfl⟩:∃a:Nat,PK=(a:Int):=⟨PK.toNat,AQ⟩;obtain ⟨b,rfl⟩:∃b:Nat,out=(b:Int):=⟨out.toNat,AQ⟩;obtain ⟨c,rfl⟩:∃c:Nat,E=(c:Int):=⟨E.toNat,AQ⟩;obtain ⟨d,rfl⟩:∃d:Nat,sl=(d:Int):=⟨sl.toNat,AQ⟩;have t:=QE sh a AQ;have hb:=QE sh b AQ;have e:(0:Int)<=(a:Int)/\(a:Int)<(sh.length:Int):=AQ;have g:(0:Int)<=(b:Int)/\(b:Int)<(sh.length:Int):=AQ;have q:XB sh ⟨K,H,a,b,d,c⟩=(!sh.getD a false&&(!sh.getD b false&&(List.range d).all λ j=>!sh.getD (c+j) false)):=by simp[XB]
 cases f:sh.getD a false;rotate_left
 . simp only[go_sem,J6,Be,t,e,f];rw[q,f];simp
 cases l:sh.getD b false;rotate_left
 . simp only[go_sem,J6,Be,t,e,f,hb,g,l];rw[q,f,l];simp
 simp only[go_sem,J6,Be,t,e,f,hb,g,l];rw[q,f,l];refine Dm (λ j:Nat=>⟨[(1,sD (Dn sh)),(7,.ptr 7 0),(8,iD ((c+j:Nat):Int))],[(7,.box [.p (.str K),bD H,iD (a:Nat),iD (b:Nat),iD (d:Nat),iD (c:Nat)])],41⟩)
   (λ j=>j<=d/\∀u,u<j->sh.getD (c+u) false=false) (λ j=>d - j) 0 ⟨BO _,λ u k=>absurd k (B5 _)⟩ (Wk.forget (by simp[ZF])) ?_
 rintro j m ⟨hj,Bmd⟩ ih;have B:i64.wrap ((c:Int)+(d:Int))=(c:Int)+(d:Int):=by rw[C6]<;>omega
 simp only[go_sem,B];refine D2 (λ h2=>?_) (λ h2=>?_)
 . have i:j<d:=by simp at h2;omega
   have S:=DG (c+j) AQ;have v:=QE sh (c+j) AQ;have w:(0:Int)<=((c+j:Nat):Int)/\((c+j:Nat):Int)<(sh.length:Int):=AQ;simp only[go_sem,J6,Be,v,w];cases o:sh.getD (c+j) false
   . simp only[go_sem,o,S];refine ih (j+1) _ ⟨i,λ u k=>?_⟩ AQ ?_
     . rcases BK.1 k with Q | rfl
       . exact Bmd u Q
       . exact o
     . (refine Wk.forget ?_;simp[ZF,Nat.add_assoc];done)
   . simp only[go_sem,o];have hex:((List.range d).all λ j=>!sh.getD (c+j) false)=false:=by
       rw[List.all_eq_false];exact ⟨j,List.mem_range.2 i,by rw[o];simp⟩
     rw[hex]
 . simp only[go_sem];have:j=d:=by simp at h2;omega
   subst this;have XU:((List.range j).all λ j=>!sh.getD (c+j) false)=true:=by
     rw[BB];intro u k;rw[Bmd u (List.mem_range.1 k)];rfl
   rw[XU]
def HA(sh:Ad):List Su->Int
 | []=>0
 | s::r=>(if s.Fw&&XB sh s then s.Ei else 0)+HA sh r
theorem Ta(sh)(l)(s):HA sh (l++[s])=HA sh l+(if s.Fw&&XB sh s then s.Ei else 0):=by
 induction l with
 | nil=>simp[HA]
 | cons x r a=>simp only[CD,HA,a];omega
theorem VZ(sh){a}{l}(h:JN a l):∀k,k<=l.length->0<=HA sh (l.take k)/\HA sh (l.take k)<=4*k
 | 0,_=>by simp[HA]
 | k+1,g=>by
   have b:=VZ sh h k AQ;obtain ⟨_,_,_,_,e,f,_⟩:=h k AQ;rw[Hh l k E3 AQ,Ta];split<;>omega
theorem Bd1(n)(p:validN n)(sh)(j:(sh.length:Int)=OL n):
   C4 prog 37 [.agg n.cs,sD (Dn sh)] [] λ h r=>h=[]/\r=iD (HA sh n.CV):=by
 have q:=λ s u=>Bjp n p sh j s u;obtain ⟨v,w,x,y,z,QZ,B,E⟩:=p;refine Dw func37 rfl Ap9 (by simp[Tryz.f37]) ?_;simp only[go_sem,Nt.cs];refine Dm (λ i:Nat=>⟨[(1,sD (Dn sh)),(2,.ptr 2 0),(5,iD (HA sh (n.CV.take i))),(6,iD (i:Nat))],[(2,.box (Nt.cs n))],35⟩)
   (λ i=>i<=n.CV.length) (λ i=>n.CV.length - i) 0 (BO _) (Wk.forget (by simp[ZF,Nt.cs,HA])) ?_
 rintro i m t o;simp only[go_sem,Nt.cs,Ea];refine D2 (λ h2=>?_) (λ h2=>?_)
 . have Dv:i<n.CV.length:=by simp at h2;omega
   have k:=DG i AQ;have g:=Ov n.CV i Dv;have FC:(0:Int)<=(i:Int)/\(i:Int)<(n.CV.length:Int):=AQ;have H:=VZ sh QZ i t;have a:HA sh (n.CV.take (i+1))=HA sh (n.CV.take i)+(if (n.CV.getD i E3).Fw&&XB sh (n.CV.getD i E3) then (n.CV.getD i E3).Ei else 0):=by rw[Hh n.CV i E3 Dv,Ta]
   have f:=q i Dv;obtain ⟨_,_,_,_,I,K,_⟩:=QZ i Dv;generalize n.CV.getD i E3=s at*;have l:i64.wrap (HA sh (n.CV.take i)+s.Ei)=HA sh (n.CV.take i)+s.Ei:=by rw[C6]<;>omega
   generalize HA sh (n.CV.take i)=S at*;cases b:s.Fw
   . simp only[go_sem,Nt.cs,Ea,Be,g,FC,b,k];refine o (i+1) _ Dv AQ ?_
     (refine Wk.forget ?_;simp[ZF,Nt.cs,a,b];done)
   simp only[go_sem,Nt.cs,Ea,Be,g,FC,b];refine Cq ((f)) ?_;cases e:XB sh s
   . simp only[go_sem,e,k];refine o (i+1) _ Dv AQ ?_
     (refine Wk.forget ?_;simp[ZF,Nt.cs,a,b,e];done)
   . simp only[go_sem,Nt.cs,Ea,Be,g,FC,b,e,l,k];refine o (i+1) _ Dv AQ ?_
     (refine Wk.forget ?_;simp[ZF,Nt.cs,a,b,e];done)
 . simp only[go_sem];have:i=n.CV.length:=by simp at h2;omega
   subst this;rw[BE]
theorem An5(n):List.take n (List.replicate n [Pd.bool false])=Dn (List.replicate n false):=by simp[Dn]
theorem Ty{n}(f:validN n):PQ n.next/\YW n.next/\n.next.length=n.blocks.length:=by
 obtain ⟨⟨j,h2,a,b⟩,_⟩:=f;refine ⟨⟨AQ,λ i e=>?_⟩,⟨AQ,λ r g=>?_⟩,a⟩
 . rw[a];exact (b i AQ).2.2
 . obtain ⟨i,e,rfl⟩:=Cg.1 g;have:=(b i AQ).2.1;rw[getD_eq e] at this;omega
theorem Aca{n}(a:validN n):smallN n:=by
 have b:=Ty a;obtain ⟨⟨e,h2,f,g⟩,i,j,k,_⟩:=a;exact ⟨AQ,b.2.1,AQ,AQ⟩
theorem Bey(n)(a:validN n):C4 prog 17 [.agg n.cs] [] λ h r=>h=[]/\∃(o:Aa) (sl cap:Int),r= .Em [.agg [iD (o.length:Nat),sD (CT o),iD sl,iD cap],iD 0]/\cap<=sl/\sl=HA (List.replicate (OL n).toNat false) n.CV:=by
 have m:=Ah0 n (Aca a);rw[Bi a] at m;obtain ⟨q,t,f⟩:=Ty a;have l:=Bew n.next (List.replicate n.next.length false) q t AT
 have k:=Bht n a;have e:=λ (c:Nat) (b:(c:Int)=OL n)=>Bd1 n a (List.replicate c false) (by simpa using b);have QZ:=a.2.2.2.2.2.1;have Bke:=a.1.2.1;have s:=a.2.1;have Fx:=S5 QZ;obtain ⟨c,b⟩:∃c:Nat,OL n=(c:Int):=⟨(OL n).toNat,by unfold OL;omega⟩;have XS:c<=48:=by unfold OL at b;omega
 have e:=e c b.symm;have g:=VZ (List.replicate c false) QZ n.CV.length (Bk _);rw[BE] at g;rw[b] at k ⊢;rw[Be];generalize HA (List.replicate c false) n.CV=S at*;rw[f] at l;refine Dw func17 rfl Ape (by simp[Tryz.f17]) ?_;simp only[go_sem,Nt.cs];refine Cq ((m)) ?_;simp only[go_sem,Nt.cs];refine PW mixed (p:=[(0,0),(1,0),(2,0),(3,0),(4,0),(5,1),(6,2),(7,0),(8,0),(9,0),(10,0),(11,0),(12,0),(13,0)]) AX A8 ?_;simp only[go_sem,Nt.cs,DB,Be,B1,An5];refine ⟨AQ,?_⟩;refine Aw1 l ?_;rintro u r ⟨rfl,o,rfl,v⟩;simp only[go_sem,Nt.cs];refine PW mixed (p:=[(0,0),(1,0),(2,0),(3,0),(8,1),(4,2),(5,1),(6,2),(7,0),(9,3)]) AX A8 ?_;simp only[go_sem,Nt.cs];refine Gq ((k)) ?_;simp only[go_sem,Nt.cs,Be,B1,An5];refine ⟨AQ,?_⟩;refine Gq ((e)) ?_;simp only[go_sem,Nt.cs];cases j:decide (0<(o.length:Int))
 . simp only[go_sem,j];refine Dt ?_;simp only[go_sem];exact ⟨o,S,S,rfl,Int.le_refl _,rfl⟩
 . have i:i64.wrap ((o.length:Int) - 1)=(o.length:Int) - 1:=by rw[C6]<;>omega
   simp only[go_sem,j,i];refine Dt ?_;simp only[go_sem];exact ⟨o,S,_,rfl,AQ,rfl⟩
def ZZ(s:Su):Aa:=if s.Fw=true then (List.range s.Ei.toNat).map (λ j=>s.base+((j:Nat):Int)) else []
def J2(l:List Su):Aa:=l.flatMap ZZ
theorem Vv(l)(s):J2 (l++[s])=J2 l++ZZ s:=by simp[J2]
theorem Ahb{s}{x}:x∈ZZ s↔inD x s=true:=by
 unfold ZZ inD;by_cases h:s.Fw=true
 . rw[if_pos h,h];simp only[BR,List.mem_range,Bool.true_and,BA,BM];constructor
   . rintro ⟨j,b,rfl⟩;omega
   . rintro ⟨a,h2⟩;exact ⟨(x - s.base).toNat,AQ,AQ⟩
 . have h2:s.Fw=false:=by simpa using h
   rw[if_neg h,h2];simp
theorem Ane(s):(ZZ s).Nodup:=by
 unfold ZZ;split
 . rw[List.nodup_iff_pairwise_ne,List.pairwise_map];exact (List.pairwise_lt_range).imp λ h=>AQ
 . exact List.nodup_nil
theorem ZY{b}{l}(h:JN b l):∀k,k<=l.length->(J2 (l.take k)).Nodup/\∀x∈J2 (l.take k),x<(b:Int)+GO (l.take k)
 | 0,_=>by simp[J2]
 | k+1,q=>by
   obtain ⟨f,h2⟩:=ZY h k AQ;have g:=h k AQ;rw[Hh l k E3 AQ,Vv,IN];generalize l.getD k E3=s at*;obtain ⟨_,_,_,_,j,m,n⟩:=g;have a:∀x∈ZZ s,s.base<=x/\x<s.base+s.Ei:=λ x hx=>by
     have:=Ahb.1 hx;unfold inD at this;simp at this;exact ⟨this.2.1,this.2.2⟩
   refine ⟨?_,λ x hx=>?_⟩
   . rw[List.nodup_append];refine ⟨f,Ane s,λ x hx y i e=>?_⟩;have o:=h2 x hx;have p:=a y i;omega
   . rcases BD.1 hx with hx | hx
     . have:=h2 x hx;omega
     . have:=a x hx;omega
theorem Bex(c k):(List.replicate c false).getD k false=false:=by
 simp only[List.getD,CC];split<;>rfl
theorem Ax3(c)(s):XB (List.replicate c false) s=true:=by
 unfold XB;simp only[Bex];simp
theorem ZX{e}{l}(h:JN e l)(c):∀k,k<=l.length->HA (List.replicate c false) (l.take k)=((J2 (l.take k)).length:Int)
 | 0,_=>by simp[HA,J2]
 | k+1,m=>by
   have a:=ZX h c k AQ;have b:=h k AQ;rw[Hh l k E3 AQ,Ta,Vv,Bw,a,Ax3];obtain ⟨_,_,_,_,f,g,i⟩:=b;generalize l.getD k E3=s at*;unfold ZZ;cases j:s.Fw
   . simp
   . simp;omega
theorem Axr{i}{l}(h:JN i l)(c){rb:Aa}(k:(rb.length:Int)<HA (List.replicate c false) l):∃s∈l,∃j:Nat,s.Fw=true/\(j:Int)<s.Ei/\s.base+(j:Int)∉rb:=by
 have b:=ZX h c l.length (Bk _);have h2:=(ZY h l.length (Bk _)).1;rw[BE] at b h2;have EH:¬∀x∈J2 l,x∈rb:=λ f=>by have:=Bm0 _ rb h2 f;omega
 have:∃x,x∈J2 l/\x∉rb:=Classical.byContradiction λ e=>EH λ x hx=>Classical.byContradiction λ Kl=>e ⟨x,hx,Kl⟩;obtain ⟨x,hx,Kl⟩:=this;obtain ⟨s,g,I6⟩:=List.mem_flatMap.1 hx;have a:=Ahb.1 I6;unfold inD at a;simp at a;exact ⟨s,g,(x - s.base).toNat,a.1,AQ,by rw[show s.base+(((x - s.base).toNat:Nat):Int)=x by omega];exact Kl⟩
def RP(b i:Nat)(r:Aa):Prop:=r.Pairwise (· < ·)/\(∀x∈r,0<=x/\x<(b:Int)/\x≠(i:Int))/\r.length<=4/\(1<b->(((i+1) % b:Nat):Int)∈r)
theorem RP.row{b i}{r}(h:RP b i r):UU b i r:=by
 intro k e;obtain ⟨f,h2,_,_⟩:=h;have a:=h2 _ (IF r k 0 e);refine ⟨a.1,a.2.1,a.2.2,λ Km=>?_⟩;rw[getD_eq e,getD_eq (show k - 1<r.length by omega)];exact List.pairwise_iff_getElem.1 f (k - 1) k AQ e AQ
theorem RP.ins{b i}{r}{x}(h:RP b i r)(h0:0<=x)(hb:x<(b:Int))(j:x≠(i:Int))(k:x∉r)(m:r.length<4):RP b i (Tt r x):=by
 obtain ⟨f,h2,l,g⟩:=h;refine ⟨Bdv r x f k,λ y e=>?_,by rw[Bdu];omega,λ a=>(Adi r x _).2 (.inr (g a))⟩;rcases (Adi r x y).1 e with rfl | e
 . exact ⟨h0,hb,j⟩
 . exact h2 y e
theorem Aiv(l)(i:Nat):((DA l)[i]?.getD []).tail=[]:=by
 unfold DA;rw[BC];cases l[i]?<;>rfl
theorem Bjg(l)(at_ b)(bl)(nx)(PZ:at_<1000000)(a6:1<=b)(hb:b<=10)(U:bl.length=b)(a1:nx.length=b)(Ca2:∀i,i<b->nx.getD i []=[]):
   C4 prog 16 [.ptr 1000000 0,.ptr 1000001 0]
     [(1000000,.box (FB l at_)),(1000001,.box [.ref 1000002 0 b b,.ref 1000003 0 b b,.cl [],.cl [],iD 0,iD 0,iD 0,iD 0]),(1000002,.arr 53 3 (FM bl)),(1000003,.arr 23 1 (DA nx))]
     λ h r=>∃v s,v<=at_+20/\s.length=b/\(∀i,i<b->RP b i (s.getD i []))/\r= .Em []/\
       h=[(1000000,.box (FB l v)),(1000001,.box [.ref 1000002 0 b b,.ref 1000003 0 b b,.cl [],.cl [],iD 0,iD 0,iD 0,iD 0]),(1000002,.arr 53 3 (FM bl)),(1000003,.arr 23 1 (DA s))]:=by
 refine Dw func16 rfl Bh1 (by simp[Tryz.f16]) ?_;simp only[go_sem,FB];refine ⟨by rw[DB];exact U.symm,?_⟩;refine Dm (λ q:Nat×Ab=>⟨[(0,.ptr 1000000 0),(1,.ptr 1000001 0),(4,iD (b:Nat)),(5,iD (q.1:Nat))],
     [(1000000,.box [sD (CT l),iD (at_:Nat)]),(1000001,.box [.ref 1000002 0 b b,.ref 1000003 0 b b,.cl [],.cl [],iD 0,iD 0,iD 0,iD 0]),(1000002,.arr 53 3 (FM bl)),(1000003,.arr 23 1 (DA q.2))],98⟩)
   (λ q=>q.1<=b/\q.2.length=b/\(∀j,j<q.1->RP b j (q.2.getD j []))/\(∀j,q.1<=j->j<b->q.2.getD j []=[])) (λ q=>b - q.1) (0,nx) ⟨BO _,a1,λ j B=>absurd B (B5 _),λ j _ B=>Ca2 j B⟩ (Wk.forget (by simp[ZF,DA])) ?_
 rintro ⟨i,g⟩ m ⟨hi,o,Beo,Be7⟩ ih;simp only at hi o Beo Be7;cases t:decide ((i:Int)<(b:Int))
 case' true=>cases K:decide (1<(b:Int))
 case true.true=>
   have V:i<b:=by have:=Bg t;omega
   have a7:1<b:=by have:=Bg K;omega
   have hw:=DG i AQ;have Aok:((i+1:Nat):Int).tmod (b:Int)=(((i+1) % b:Nat):Int):=by rw[Int.tmod_eq_emod_of_nonneg AQ];omega
   have EH:¬(b:Int)=0:=AQ;have FC:(0:Int)<=(i:Int)/\(i:Int)<(b:Int):=AQ;simp only[go_sem,t,K];refine PW mixed (p:=[(0,0),(1,0),(2,0),(3,0),(4,0),(5,0),(6,0),(7,0),(8,0),(9,1),(10,0),(11,3)]) AX A8 ?_;simp only[go_sem,hw,Aok,EH,Du,o,Be,FC];refine ih (i+1,g.set i [(((i+1) % b:Nat):Int)]) _ ⟨V,by simpa using o,λ j B=>?_,λ j B Y=>?_⟩ A0 ?_
   . rw[MU];by_cases e:i=j
     . subst e;rw[if_pos ⟨rfl,AQ⟩];have hm:(i+1) % b<b:=Nat.mod_lt _ AQ;have E:(i+1) % b≠i:=by
         intro h;rcases Nat.lt_or_ge (i+1) b with h5 | h5
         . rw[Nat.mod_eq_of_lt h5] at h;omega
         . have:i+1=b:=AQ;rw[this,Nat.mod_self] at h;omega
       refine ⟨List.pairwise_singleton _ _,λ x hx=>?_,AT,λ _=>AT⟩;rw[BG] at hx;subst hx;omega
     . rw[if_neg (λ h=>e h.1)];exact Beo j AQ
   . rw[MU,if_neg AQ];exact Be7 j AQ Y
   . (refine Wk.forget ?_;simp[ZF,Apo,Aiv,CT];done)
 case' true.false=>
   have a5:b=1:=by have:=Bh K;omega
   have Ol:i=0:=by have:=Bg t;omega
   have y:∀u,u<b->RP b u (g.getD u []):=λ u H=>by
     rw[Be7 u AQ H];exact ⟨List.Pairwise.nil,λ x hx=>absurd hx AT,AT,λ h=>absurd h AQ⟩
   simp only[go_sem,t,K]
 case' false=>
   have a9:i=b:=by have:=Bh t;omega
   have y:∀u,u<b->RP b u (g.getD u []):=λ u H=>Beo u AQ;simp only[go_sem,t]
 all_goals
   refine Cq ((Hv l at_ 4 AQ (E2 _ AQ AQ))) ?_;obtain ⟨k0,Km,b0⟩:=F6 l at_ 4 AQ;simp only[go_sem,FB,Km];refine Dm (λ q:Nat×Nat×Ab=>⟨[(0,.ptr 1000000 0),(1,.ptr 1000001 0),(4,iD (b:Nat)),(6,iD (q.1:Nat))],
       [(1000000,.box [sD (CT l),iD (q.2.1:Nat)]),(1000001,.box [.ref 1000002 0 b b,.ref 1000003 0 b b,.cl [],.cl [],iD 0,iD 0,iD 0,iD 0]),(1000002,.arr 53 3 (FM bl)),(1000003,.arr 23 1 (DA q.2.2))],98⟩)
     (λ q=>q.1<=3/\q.2.1<=at_+1+3*(3 - q.1)/\q.2.2.length=b/\∀i,i<b->RP b i (q.2.2.getD i [])) (λ q=>q.1) (k0,at_+1,g) ⟨by simp only;omega,by simp only;omega,o,y⟩ (Wk.forget (by simp[ZF,DA])) ?_
   rintro ⟨k,a,n⟩ m2 ⟨a0,XU,Ab1,Ala⟩ Wi;simp only at a0 XU Ab1 Ala;cases N:decide (0<(k:Int))
   . simp only[go_sem,N];refine DL ?_;simp only[go_sem];refine ⟨a,n,AQ,Ab1,Ala,?_⟩;first | exact ⟨rfl,rfl⟩ | rfl | simp
   cases R:decide (2<(b:Int))
   . simp only[go_sem,N,R];refine DL ?_;simp only[go_sem];refine ⟨a,n,AQ,Ab1,Ala,?_⟩;first | exact ⟨rfl,rfl⟩ | rfl | simp
   have b1:1<=k:=by have:=Bg N;omega
   obtain ⟨k,rfl⟩:∃j,k=j+1:=⟨k - 1,AQ⟩;have Rx:=NI k AQ;have a8:2<b:=by have:=Bg R;omega
   have z:(0:Int)<(b:Int):=AQ;obtain ⟨f,W,a2⟩:=F6 l a b z;obtain ⟨jj,Z,a3⟩:=F6 l (a+1) b z;have Bei:(0:Int)<=(f:Int)/\(f:Int)<(b:Int):=AQ;have Rz:=QL n f AQ;have a4:=(Ala f AQ).2.2.1;simp only[go_sem,N,R];refine Cq ((Hv l a b AQ (E2 _ AQ AQ))) ?_;simp only[go_sem,FB,W];refine Cq ((Hv l (a+1) b AQ (E2 _ AQ AQ))) ?_;simp only[go_sem,FB,Z];refine Cq ((Hv l (a+1+1) 3 AQ (E2 _ AQ AQ))) ?_;simp only[go_sem,FB];have Bed:(((f:Int)+2)).tmod (b:Int)=(((f+2) % b:Nat):Int):=by
     rw[show (f:Int)+2=((f+2:Nat):Int) by omega,Int.tmod_eq_emod_of_nonneg AQ];exact (Int.natCast_emod _ _).symm
   have I:i64.wrap ((f:Int)+2)=(f:Int)+2:=by rw[C6]<;>omega
   have Bt6:¬(b:Int)=0:=AQ;have E:(f+2) % b<b:=Nat.mod_lt _ AQ;cases d3:decide (0<Vz l (a+1+1) 3)
   case' true=>generalize (f+2) % b=J at Bed E
   case' false=>
     obtain ⟨J,e0⟩:∃J,J=jj:=⟨jj,rfl⟩;subst e0
   all_goals
     have w:(0:Int)<=((J:Nat):Int)/\((J:Nat):Int)<(b:Int):=AQ;cases S:decide ((f:Int)=((J:Nat):Int));rotate_left
     . simp only[go_sem,d3,Rx,I,Bed,Bt6,S];refine Wi (k,a+1+1+1,n) _ ⟨by simp only;omega,by simp only;omega,Ab1,Ala⟩ A0 ?_
       (refine Wk.forget ?_;simp[ZF];done)
     simp only[go_sem,d3,Rx,I,Bed,Bt6,S,Du,Ab1,Be,Rz,Bei];refine Cq ((Ber (n.getD f []) ((J:Nat):Int) AQ)) ?_;cases Q:decide (((J:Nat):Int)∈n.getD f []);rotate_left
     . simp only[go_sem,Q,Rx];refine Wi (k,a+1+1+1,n) _ ⟨by simp only;omega,by simp only;omega,Ab1,Ala⟩ A0 ?_
       (refine Wk.forget ?_;simp[ZF];done)
     cases T:decide (((n.getD f []).length:Int)<4)
     . simp only[go_sem,Q,Du,C1,Ab1,Be,Rz,Bei,T,Rx];refine Wi (k,a+1+1+1,n) _ ⟨by simp only;omega,by simp only;omega,Ab1,Ala⟩ A0 ?_
       (refine Wk.forget ?_;simp[ZF];done)
     simp only[go_sem,Q,Du,C1,Ab1,Be,Rz,Bei,T];refine PW mixed (p:=[(0,0),(1,0),(2,0),(3,0),(4,0),(5,0),(6,0),(7,0),(8,0),(9,0),(10,0),(11,0),(12,0),(13,2),(14,0),(15,3)]) AX A8 ?_;simp only[go_sem,Du,C1,Ab1,Be,Rz,Bei];refine Gq ((Axg (n.getD f []) ((J:Nat):Int) AQ)) ?_;simp only[go_sem,Du,Ab1,Be,Bei,Rx];refine Wi (k,a+1+1+1,n.set f (Tt (n.getD f []) ((J:Nat):Int))) _ ⟨by simp only;omega,by simp only;omega,by simpa using Ab1,λ u H=>?_⟩ A0 ?_
     . rw[MU];by_cases e:f=u
       . subst e;rw[if_pos ⟨rfl,AQ⟩];exact (Ala f H).ins w.1 w.2 (λ h=>Bh S h.symm) (Bh Q) (by have:=Bg T;omega)
       . rw[if_neg (λ h=>e h.1)];exact Ala u H
     . (refine Wk.forget ?_;simp[ZF,Apo,Aiv];done)
def Au1(i:Nat):Ac:=if i<10 then [UInt8.ofNat (48+i)] else [UInt8.ofNat (48+i / 10),UInt8.ofNat (48+i % 10)]
theorem Bhi(i)(h:i<100):NA i=Au1 i:=by
 unfold Au1;by_cases a:i<10
 . rw[if_pos a,Kq i a]
 . rw[if_neg a,Af4 i a,Kq (i / 10) AQ];rfl
theorem Bhh:∀i,i<24->∀j,j<24->Au1 i=Au1 j->i=j:=AV
theorem Bjz:∀i,i<24->MJ (98::Au1 i)=true:=AV
theorem Bjy:∀i,i<24->MJ (115::Au1 i)=true:=AV
structure Am3(n:Nt):Prop where
 nb:1<=n.blocks.length/\n.blocks.length<=10
 bl:∀i,i<n.blocks.length->(n.blocks.getD i T8).name=98::NA i/\xyP (n.blocks.getD i T8)
 nl:n.next.length=n.blocks.length
 nx:∀i,i<n.blocks.length->RP n.blocks.length i (n.next.getD i [])
 ns:3<=n.CV.length/\n.CV.length<=5
 sp:∀i,i<n.CV.length->(n.CV.getD i E3).name=115::NA i/\(i=0->(n.CV.getD i E3).Fw=true)/\(i=1∨i=2->(n.CV.getD i E3).Fw=false)
 ss:JN n.blocks.length n.CV
 rl:n.C8.length<=3
 rb:Nx n.CV n.C8
 cf:U4 n.cq n.ca n.cd n.cp
theorem Asp{n}(i)(a:i<(Kk n).length):(Kk n).getD i []=if i<n.blocks.length then (n.blocks.getD i T8).name else (n.CV.getD (i - n.blocks.length) E3).name:=by
 have b:(Kk n).length=n.blocks.length+n.CV.length:=by simp[Kk]
 have HP:i<n.blocks.length+n.CV.length:=AQ;rw[getD_eq a];unfold Kk at a ⊢;by_cases h:i<n.blocks.length
 . rw[if_pos h,List.getElem_append_left (by simpa using h),List.getElem_map,getD_eq h]
 . rw[if_neg h,List.getElem_append_right (by simpa using h),List.getElem_map,getD_eq (show i - n.blocks.length<n.CV.length by omega)];simp
theorem Am3.valid{n}(h:Am3 n):validN n:=by
 obtain ⟨u,f,v,l,H,m,x,I,w,cf⟩:=h;refine ⟨⟨u.1,AQ,v,λ i b=>⟨(f i b).2,(l i b).2.2.1,(l i b).row⟩⟩,AQ,λ i b=>?_,AQ,cf,x,w,?_⟩
 . have E:(Kk n).length=n.blocks.length+n.CV.length:=by simp[Kk]
   have key:∀j,j<(Kk n).length->∃c d,(Kk n).getD j []=c::Au1 d/\d<24/\((j<n.blocks.length/\c=98/\d=j)∨(n.blocks.length<=j/\c=115/\d=j - n.blocks.length)):=by
     intro j t;rw[Asp j t];by_cases a:j<n.blocks.length
     . rw[if_pos a,(f j a).1,Bhi j AQ];exact ⟨98,j,rfl,AQ,.inl ⟨a,rfl,rfl⟩⟩
     . rw[if_neg a,(m (j - n.blocks.length) AQ).1,Bhi _ AQ];exact ⟨115,j - n.blocks.length,rfl,AQ,.inr ⟨AQ,rfl,rfl⟩⟩
   obtain ⟨c,d,a,h2,g⟩:=key i b;refine ⟨?_,λ k B=>?_⟩
   . rw[a];rcases g with ⟨_,rfl,_⟩ | ⟨_,rfl,_⟩
     . exact Bjz d h2
     . exact Bjy d h2
   . obtain ⟨y,o,q,r,s⟩:=key k AQ;rw[a,q];intro e;rw[List.cons.injEq] at e;have z:=Bhh d h2 o r e.2;rcases g with ⟨_,rfl,rfl⟩ | ⟨_,rfl,rfl⟩<;>rcases s with ⟨_,rfl,rfl⟩ | ⟨_,rfl,rfl⟩
     . omega
     . exact absurd e.1 AV
     . exact absurd e.1 AV
     . omega
 . have p:=(m 0 AQ).2.1 rfl;rw[List.length_filter_pos_iff];exact ⟨_,IF n.CV 0 E3 AQ,p⟩
theorem L4{α:Type}(l)(x y:α)(i):(l++[x]).getD i y=if i<l.length then l.getD i y else if i=l.length then x else y:=by
 simp only[List.getD];by_cases h:i<l.length
 . rw[if_pos h,Cv h]
 . rw[if_neg h,CI AQ];by_cases h2:i=l.length
   . rw[if_pos h2,h2];simp
   . rw[if_neg h2];have:1<=i - l.length:=AQ;obtain ⟨m,a⟩:∃m,i - l.length=m+1:=⟨i - l.length - 1,AQ⟩;rw[a];simp
def Bpu(a:List Blk):Prop:=∀i,i<a.length->(a.getD i T8).name=98::NA i/\xyP (a.getD i T8)
theorem Bbj{a}(h:Bpu a)(x y)(hx:-4<=x/\x<=4)(f:-4<=y/\y<=4):Bpu (a++[⟨98::NA a.length,x,y⟩]):=by
 intro i e;rw[L4];by_cases b:i<a.length
 . rw[if_pos b];exact h i b
 . have h2:i=a.length:=by simp at e;omega
   rw[if_neg b,if_pos h2,h2];exact ⟨rfl,by unfold xyP;simp only;omega⟩
def Anb(a:Nat)(l:List Su):Prop:=∀i,i<l.length->(l.getD i E3).name=115::NA i/\(i=0->(l.getD i E3).Fw=true)/\(i=1∨i=2->(l.getD i E3).Fw=false)/\Vu a (a+GO (l.take i)) (l.getD i E3)
theorem Akj{sp}{rb}{x}(h:Nx sp rb)(b:sp.any (inD x)=true)(h2:x∉rb):Nx sp (rb++[x]):=by
 intro i f;rw[L4];by_cases a:i<rb.length
 . rw[if_pos a,List.take_append_of_le_length AQ];exact h i a
 . have e:i=rb.length:=by simp at f;omega
   subst e;rw[if_neg a,if_pos rfl,List.take_left' rfl];exact ⟨b,h2⟩
theorem Anb.CV{a}{l}(h:Anb a l):JN a l:=λ i b=>(h i b).2.2.2
theorem Anb.rng{a}{l}(h:Anb a l):0<=GO l/\GO l<=4*l.length:=S5 h.CV
theorem Anb.snoc{a}{l}(h:Anb a l)(dp)(x y z)(hx:0<=x/\x<(a:Int))(b:0<=y/\y<(a:Int))(e:1<=z/\z<=4)(h0:l.length=0->dp=true)(f:l.length=1∨l.length=2->dp=false):
   Anb a (l++[⟨115::NA l.length,dp,x,y,z,(a:Int)+GO l⟩]):=by
 intro i j;rw[L4];by_cases h2:i<l.length
 . rw[if_pos h2,List.take_append_of_le_length AQ];exact h i h2
 . have g:i=l.length:=by simp at j;omega
   subst g;rw[if_neg h2,if_pos rfl,List.take_left' rfl];exact ⟨rfl,h0,f,hx.1,hx.2,b.1,b.2,e.1,e.2,rfl⟩
def Nt.os(n:Nt):Ah:=[.ref 0 0 n.blocks.length n.blocks.length,.ref 1 0 n.next.length n.next.length,.ref 2 0 n.CV.length n.CV.length,.ref 3 0 n.C8.length n.C8.length,.p (.int .i64 n.cq),.p (.int .i64 n.ca),.p (.int .i64 n.cd),.p (.int .i64 n.cp)]
theorem Bdg(R:Nt->Int->Prop)(hR:∀n:Nt,validN n->C4 prog 17 [.agg n.cs] [] λ h r=>h=[]/\∃(o:Aa) (sl cap:Int),r= .Em [.agg [iD (o.length:Nat),sD (CT o),iD sl,iD cap],iD 0]/\cap<=sl/\sl=HA (List.replicate (OL n).toNat false) n.CV/\R n cap)
   (l) (at_ Ny) (PZ:at_<100000) (h3:1<=Ny) (h4:Ny<=10):
   C4 prog 7 [.ptr 1000000 0,iD (Ny:Nat)] [(1000000,.box (FB l at_))]
     λ h r=>∃a8 n,a8<=at_+200/\(Am3 n/\∃cap,R {n with C8:=[]} cap/\(n.C8.length=0∨(n.C8.length:Int)<=cap))/\h=[(1000000,.box (FB l a8)),(0,.arr 53 3 (FM n.blocks)),(1,.arr 23 1 (DA n.next)),(2,.arr 57 6 (Gy n.CV)),(3,.arr 3 1 (CT n.C8))]/\r= .agg n.os:=by
 refine Dw func7 rfl Bko (by simp[Tryz.f7]) ?_;simp only[go_sem,FB];refine Cq ((Hv l at_ Ny AQ (E2 _ AQ AQ))) ?_;obtain ⟨k0,Km,d3⟩:=F6 l at_ Ny AQ;have Bsc:i64.wrap (1+(k0:Int))=((k0+1:Nat):Int):=by rw[C6]<;>omega
 simp only[go_sem,FB,Km,Bsc];refine Dm (λ q:Nat×Nat×List Blk=>⟨[(0,.ptr 1000000 0),(4,.ptr 4 0),(5,.ptr 5 0),(6,iD (q.1:Nat))],
     [(1000000,.box [sD (CT l),iD (q.2.1:Nat)]),(4,.box [.cl [],.cl [],.cl [],.cl [],iD 0,iD 0,iD 0,iD 0]),
      (5,.box [rD 43 q.2.2,rD 48 q.2.2,.cl [],.cl [],iD 0,iD 0,iD 0,iD 0]),(43,.arr 53 3 (FM q.2.2)),(48,.arr 23 1 (DA (List.replicate q.2.2.length [])))],191⟩)
   (λ q=>q.1+q.2.2.length=k0+1/\q.2.1=at_+1+2*q.2.2.length/\Bpu q.2.2) (λ q=>q.1) (k0+1,at_+1,[]) ⟨AT,AT,λ i B=>by simp at B⟩
   ((Wk.EV (id:=5) (j:=0) (q:=43) (sz:=3) 53 rfl rfl rfl AV).trans ((Wk.EV (id:=5) (j:=1) (q:=48) (sz:=1) 23 rfl rfl rfl AV).trans (Wk.forget (by simp[ZF,FM,DA])))) ?_
 rintro ⟨k,a,f⟩ m ⟨hk,ha,a0⟩ ih;simp only at hk ha a0;cases c1:decide (0<(k:Int));rotate_left
 . obtain ⟨k,rfl⟩:∃j,k=j+1:=⟨k - 1,by have:=Bg c1;omega⟩;have Rx:=NI k AQ;obtain ⟨x,hx,i0⟩:=F6 l a 9 AQ;obtain ⟨y,hy,i2⟩:=F6 l (a+1) 9 AQ;have a6:i64.wrap ((x:Int) - 4)=(x:Int) - 4:=by rw[C6]<;>omega
   have f3:i64.wrap ((y:Int) - 4)=(y:Int) - 4:=by rw[C6]<;>omega
   have b8:=OH 15 f.length AQ;simp only[go_sem,c1,DB];refine Yu [(5,.box [.ref 43 0 f.length f.length,.ref 48 0 f.length f.length,.cl [],.cl [],.p (.int .i64 0),.p (.int .i64 0),.p (.int .i64 0),.p (.int .i64 0)])] mixed (p:=[(0,0),(1,0),(2,0),(5,0),(8,0),(3,2),(4,0),(6,2),(7,0),(9,2),(10,0),(11,0),(12,1),(13,2),(14,0),(15,3)]) AX A8 ?_;simp only[go_sem];refine Gq ((UL f.length AQ)) ?_;simp only[go_sem];refine ⟨by unfold maxLen;omega,?_⟩;refine Gq ((Hv l a 9 AQ (E2 _ AQ AQ))) ?_;simp only[go_sem,FB,hx,a6];refine Gq ((Hv l (a+1) 9 AQ (E2 _ AQ AQ))) ?_;simp only[go_sem,FB,hy,f3,DB];refine ⟨⟨Lr _ _ rfl,AQ⟩,?_⟩;(try simp only[go_sem]);refine Biy rfl Brc Bo1 rfl rfl ?_;simp only[go_sem,Du,B1];refine ⟨⟨Lr _ _ rfl,AQ⟩,?_⟩;simp only[go_sem,Rx];refine ih (k,a+1+1,f++[⟨98::NA f.length,(x:Int) - 4,(y:Int) - 4⟩]) _ ⟨AW,AW,Bbj a0 _ _ AQ AQ⟩ A0 ?_
   (refine Wk.forget ?_;simp[ZF,Bb0,DB,DA,CT,List.replicate_succ'];done)
 have d4:k=0:=by have:=Bh c1;omega
 subst d4;have d5:f.length=k0+1:=AQ;clear ih Bsc;simp only[go_sem,c1,DB];refine GJ (Bjg l a f.length f (List.replicate f.length []) AQ AQ AQ rfl AT (λ i B=>by simp[List.getD,B])) ?_;rintro h' r ⟨a2,T,b7,E,d6,rfl,rfl⟩;have Bzo:1<=f.length/\f.length<=10:=AQ;have g2:a2<=at_+100:=AQ;clear hk ha d5 Km d3 b7;simp only[go_sem,FB,DB];refine Cq ((Hv l a2 3 AQ (E2 _ AQ AQ))) ?_;obtain ⟨k3,b1,h0⟩:=F6 l a2 3 AQ;have Bsb:i64.wrap (3+(k3:Int))=((k3+3:Nat):Int):=by rw[C6]<;>omega
 simp only[go_sem,FB,b1,Bsb];refine Dm (λ q:Nat×Nat×List Su=>⟨[(0,.ptr 1000000 0),(4,.ptr 4 0),(5,.ptr 5 0),(8,iD ((f.length:Int)+GO q.2.2)),(9,iD (q.1:Nat))],
     [(1000000,.box [sD (CT l),iD (q.2.1:Nat)]),(4,.box [.cl [],.cl [],.cl [],.cl [],iD 0,iD 0,iD 0,iD 0]),
      (5,.box [rD 43 f,rD 48 f,rD 102 q.2.2,.cl [],iD 0,iD 0,iD 0,iD 0]),(43,.arr 53 3 (FM f)),(48,.arr 23 1 (DA T)),(102,.arr 57 6 (Gy q.2.2))],191⟩)
   (λ q=>q.1+q.2.2.length=k3+3/\q.2.1<=a2+1+4*q.2.2.length/\Anb f.length q.2.2) (λ q=>q.1) (k3+3,a2+1,[]) ⟨AT,AT,λ i B=>by simp at B⟩
   ((Wk.EV (id:=5) (j:=2) (q:=102) (sz:=6) 57 rfl rfl rfl AV).trans (Wk.forget (by simp[ZF,Gy,GO]))) ?_
 rintro ⟨k,a,e⟩ m2 ⟨hk,ha,QZ⟩ ih;simp only at hk ha QZ;have h8:=QZ.rng;cases c2:decide (0<(k:Int));rotate_left
 . obtain ⟨k,rfl⟩:∃j,k=j+1:=⟨k - 1,by have:=Bg c2;omega⟩;have Rx:=NI k AQ;have b8:=OH 15 e.length AQ;have b0:(0:Int)<(f.length:Int):=AQ;by_cases FC:e.length=0
   case' pos=>have w:decide (((e.length:Nat):Int)=0)=true:=Bi AQ
   case' neg=>
     have w:decide (((e.length:Nat):Int)=0)=false:=Bj AQ;by_cases HP:e.length<=2
     case' pos=>have JT:decide (2<((e.length:Nat):Int))=false:=Bj AQ
     case' neg=>have JT:decide (2<((e.length:Nat):Int))=true:=Bi AQ
   all_goals
     simp only[go_sem,c2,Ea];refine Yu [(5,.box [.ref 43 0 f.length f.length,.ref 48 0 f.length f.length,.ref 102 0 e.length e.length,.cl [],.p (.int .i64 0),.p (.int .i64 0),.p (.int .i64 0),.p (.int .i64 0)]),(43,.arr 53 3 (FM f))] mixed (p:=[(0,0),(3,0),(4,0),(14,0),(15,0),(16,0),(17,0),(19,0),(20,0),(21,0),(22,0),(24,0),(27,0),(29,1),(1,2),(2,0),(5,0),(6,0),(7,0),(8,0),(9,0),(10,2),(11,0),(12,0),(13,0),(18,2),(23,2),(25,2),(26,0),(28,0),(30,3)]) AX A8 ?_;first | simp only[go_sem,w,JT,DB] | simp only[go_sem,w,DB]
     refine Gq ((UL e.length AQ)) ?_;first | simp only[go_sem,w,JT,DB] | simp only[go_sem,w,DB]
     refine ⟨by unfold maxLen;omega,?_⟩;first
       | have b6:=Bg JT
         refine Gq ((Hv l a 2 AQ (E2 _ AQ AQ))) ?_;simp only[go_sem,FB,w,JT];obtain ⟨A,hA⟩:∃A,A=a+1:=⟨_,rfl⟩;obtain ⟨g,hD⟩:∃g,g=decide (Vz l a 2=0):=⟨_,rfl⟩;have hE:e.length=0->g=true:=λ h=>AQ;have hN:e.length=1∨e.length=2->g=false:=λ h=>AQ;rw[<-hA]
       | have b6:=Bh JT
         obtain ⟨A,hA⟩:∃A,A=a:=⟨_,rfl⟩;subst hA;obtain ⟨g,hD⟩:∃g,g=false:=⟨_,rfl⟩;have hE:e.length=0->g=true:=λ h=>AQ;have hN:e.length=1∨e.length=2->g=false:=λ _=>hD
       | obtain ⟨A,hA⟩:∃A,A=a:=⟨_,rfl⟩
         subst hA;obtain ⟨g,hD⟩:∃g,g=true:=⟨_,rfl⟩;have hE:e.length=0->g=true:=λ _=>hD;have hN:e.length=1∨e.length=2->g=false:=λ h=>AQ
     obtain ⟨x,hx,i1⟩:=F6 l A f.length b0;obtain ⟨y,hy,i3⟩:=F6 l (A+1) f.length b0;obtain ⟨z,hz,i4⟩:=F6 l (A+1+1) 3 AQ;have f4:i64.wrap (1+(z:Int))=1+(z:Int):=by rw[C6]<;>omega
     have f1:i64.wrap ((f.length:Int)+GO e+(1+(z:Int)))=(f.length:Int)+GO e+(1+(z:Int)):=by rw[C6]<;>omega
     refine Gq ((Hv l A f.length AQ (E2 _ AQ AQ))) ?_;simp only[go_sem,FB,hx];refine Gq ((Hv l (A+1) f.length AQ (E2 _ AQ AQ))) ?_;simp only[go_sem,FB,hy];refine Gq ((Hv l (A+1+1) 3 AQ (E2 _ AQ AQ))) ?_;simp only[go_sem,FB,hz,f4,f1,Ea];refine ⟨⟨Lr _ _ rfl,AQ⟩,?_⟩;simp only[go_sem,Rx];refine ih (k,A+1+1+1,e++[⟨115::NA e.length,g,(x:Int),(y:Int),1+(z:Int),(f.length:Int)+GO e⟩]) _ ⟨AW,AW,QZ.snoc _ _ _ _ AQ AQ AQ hE hN⟩ A0 ?_
     (refine Wk.forget ?_;simp[ZF,Baz,Ea,IN,Int.add_assoc,hD];done)
 have Bzu:k=0:=by have:=Bh c2;omega
 subst Bzu;have Ut:3<=e.length/\e.length<=5:=AQ;have g3:a<=at_+130:=AQ;clear ih hk ha Bsb b1;obtain ⟨K,d7,f6⟩:=F6 l a 4 AQ;obtain ⟨Y,d8,f8⟩:=F6 l (a+1) 3 AQ;obtain ⟨Z,d9,f9⟩:=F6 l (a+1+1) 3 AQ;obtain ⟨N,e0,g0⟩:=F6 l (a+1+1+1) 8 AQ;obtain ⟨q5,e5,g1⟩:=F6 l (a+1+1+1+1) 3 AQ;have e8:i64.wrap (1+(K:Int))=1+(K:Int):=by rw[C6]<;>omega
 have e9:i64.wrap (1+(N:Int))=1+(N:Int):=by rw[C6]<;>omega
 have f0:i64.wrap (1+(q5:Int))=((q5+1:Nat):Int):=by rw[C6]<;>omega
 have hP:∀rb:Aa,rb.length<=3->Nx e rb->Am3 ⟨f,T,e,rb,1+K,Y,Z,1+N⟩:=λ rb KI JH=>
   ⟨Bzo,a0,E,d6,Ut,λ i B=>⟨(QZ i B).1,(QZ i B).2.1,(QZ i B).2.2.1⟩,QZ.CV,KI,JH,by unfold U4;simp only;omega⟩
 have hF:C4 prog 17 [.agg [sD (FM f),sD (DA T),sD (Gy e),sD [],iD (1+K),iD Y,iD Z,iD (1+N)]] [] _:=
   hR ⟨f,T,e,[],1+K,Y,Z,1+N⟩ (hP [] AT (λ i B=>by simp at B)).valid
 have e1:=Aiq f f.length (Bk _);have e2:=Aiu T f.length AQ;have e3:=Ain e e.length (Bk _);simp only[go_sem,c2];refine Cq ((Hv l a 4 AQ (E2 _ AQ AQ))) ?_;simp only[go_sem,FB,d7,e8];refine Cq ((Hv l (a+1) 3 AQ (E2 _ AQ AQ))) ?_;simp only[go_sem,FB,d8];refine Cq ((Hv l (a+1+1) 3 AQ (E2 _ AQ AQ))) ?_;simp only[go_sem,FB,d9];refine Cq ((Hv l (a+1+1+1) 8 AQ (E2 _ AQ AQ))) ?_;simp only[go_sem,FB,e0,e9,DB,Du,E,Ea,e1,e2,e3];refine Blj rfl rfl hF (by simp[OQ,Bor,ev,get,DB,Du,E,Ea,e1,e2,e3]) ?_;rintro h' r ⟨rfl,o,a7,cap,rfl,Qt,Bzd,a9⟩;refine ⟨rfl,?_⟩;simp only[go_sem];refine Cq ((Hv l (a+1+1+1+1) 3 AQ (E2 _ AQ AQ))) ?_;simp only[go_sem,FB,e5,f0];refine Dm (λ q:Nat×Nat×Aa=>⟨[(0,.ptr 1000000 0),(4,.ptr 4 0),(5,.ptr 5 0),(12,.ptr 12 0),(14,iD (q.1:Nat))],
     [(1000000,.box [sD (CT l),iD (q.2.1:Nat)]),(4,.box [.cl [],.cl [],.cl [],.cl [],iD 0,iD 0,iD 0,iD 0]),
      (5,.box [rD 43 f,rD 48 f,rD 102 e,rD 188 q.2.2,iD (1+K),iD Y,iD Z,iD (1+N)]),
      (12,.box [iD (o.length:Nat),.WX,iD a7,iD cap]),(43,.arr 53 3 (FM f)),(48,.arr 23 1 (DA T)),(102,.arr 57 6 (Gy e)),(188,.arr 3 1 (CT q.2.2))],191⟩)
   (λ q=>q.1+q.2.2.length<=q5+1/\q.2.1+q.1<=a+10/\Nx e q.2.2/\(q.2.2.length=0∨(q.2.2.length:Int)<=cap)) (λ q=>q.1) (q5+1,a+1+1+1+1+1,[]) ⟨AT,by simp only;omega,λ i B=>by simp at B,.inl rfl⟩
   ((Wk.EV (id:=5) (j:=3) (q:=188) (sz:=1) 3 rfl rfl rfl AV).trans (Wk.forget A9)) ?_
 rintro ⟨k,b,rb⟩ m3 ⟨hk,hb,W,a4⟩ ih;simp only at hk hb W a4;have e4:=Uz rb rb.length (Bk _);cases c3:decide (0<(k:Int))
 . simp only[go_sem,c3];refine DL ?_;simp only[go_sem,DB,Du,E,Ea,C1];refine ⟨b,⟨f,T,e,rb,1+K,Y,Z,1+N⟩,AQ,⟨hP rb AQ W,cap,a9,a4⟩,?_⟩;simp[Nt.os,FB,E]
 cases c4:decide ((rb.length:Int)<cap)
 . simp only[go_sem,c3,c4,C1];refine DL ?_;simp only[go_sem,DB,Du,E,Ea,C1];refine ⟨b,⟨f,T,e,rb,1+K,Y,Z,1+N⟩,AQ,⟨hP rb AQ W,cap,a9,a4⟩,?_⟩;simp[Nt.os,FB,E]
 simp only[go_sem,c3,c4,C1];have h7:rb.length<=3:=AQ;have a5:=QZ.CV;refine Dm (λ q:Nat×Aa=>⟨[(0,.ptr 1000000 0),(4,.ptr 4 0),(5,.ptr 5 0),(12,.ptr 12 0),(14,iD (k:Nat)),(15,rD 177 q.2),(16,iD (q.1:Nat))],
     [(1000000,.box [sD (CT l),iD (b:Nat)]),(4,.box [.cl [],.cl [],.cl [],.cl [],iD 0,iD 0,iD 0,iD 0]),
      (5,.box [rD 43 f,rD 48 f,rD 102 e,rD 188 rb,iD (1+K),iD Y,iD Z,iD (1+N)]),
      (12,.box [iD (o.length:Nat),.WX,iD a7,iD cap]),(43,.arr 53 3 (FM f)),(48,.arr 23 1 (DA T)),(102,.arr 57 6 (Gy e)),(188,.arr 3 1 (CT rb)),(177,.arr 3 1 (CT q.2))],191⟩)
   (λ q=>q.1<=e.length/\q.2.length<=4*q.1/\(∀x∈q.2,e.any (inD x)=true/\x∉rb)/\∀u,u<q.1->∀j:Nat,(e.getD u E3).Fw=true->(j:Int)<(e.getD u E3).Ei->(e.getD u E3).base+(j:Int)∈rb∨(e.getD u E3).base+(j:Int)∈q.2)
   (λ q=>e.length - q.1) (0,[]) ⟨BO _,AT,λ x hx=>by simp at hx,λ u Q=>absurd Q (B5 _)⟩
   ((Wk.nil (t:=15) (q:=177) (sz:=1) 3 rfl rfl AV).trans (Wk.forget A9)) ?_
 rintro ⟨i,U⟩ m4 ⟨B,b9,a1,Bp7⟩ b4;simp only at B b9 a1 Bp7;cases c5:decide ((i:Int)<(e.length:Int));rotate_left
 . have hit:i<e.length:=by have:=Bg c5;omega
   have b2:=DG i AQ;have a3:=Ov e i hit;have FC:(0:Int)<=(i:Int)/\(i:Int)<(e.length:Int):=AQ;have JP:=IF e i E3 hit;obtain ⟨_,_,_,_,g5,g6,g7⟩:=a5 i hit;obtain ⟨g8,g9,_⟩:=S9 a5 hit;generalize e6:e.getD i E3=s at*;simp only[go_sem,c5,Ea];refine Dm (λ q:Nat×Aa=>⟨[(0,.ptr 1000000 0),(4,.ptr 4 0),(5,.ptr 5 0),(12,.ptr 12 0),(14,iD (k:Nat)),(15,rD 177 q.2),(16,iD (i:Nat)),(17,iD (q.1:Nat))],
       [(1000000,.box [sD (CT l),iD (b:Nat)]),(4,.box [.cl [],.cl [],.cl [],.cl [],iD 0,iD 0,iD 0,iD 0]),
      (5,.box [rD 43 f,rD 48 f,rD 102 e,rD 188 rb,iD (1+K),iD Y,iD Z,iD (1+N)]),
      (12,.box [iD (o.length:Nat),.WX,iD a7,iD cap]),(43,.arr 53 3 (FM f)),(48,.arr 23 1 (DA T)),(102,.arr 57 6 (Gy e)),(188,.arr 3 1 (CT rb)),(177,.arr 3 1 (CT q.2))],191⟩)
     (λ q=>q.1<=4/\(q.1:Int)<=s.Ei/\q.2.length<=4*i+q.1/\(∀x∈q.2,e.any (inD x)=true/\x∉rb)/\(∀u,u<i->∀j:Nat,(e.getD u E3).Fw=true->(j:Int)<(e.getD u E3).Ei->(e.getD u E3).base+(j:Int)∈rb∨(e.getD u E3).base+(j:Int)∈q.2)/\∀j:Nat,j<q.1->s.base+(j:Int)∈rb∨s.base+(j:Int)∈q.2)
     (λ q=>4 - q.1) (0,U) ⟨AT,by simp only;omega,by simp only;omega,a1,Bp7,λ j hj=>absurd hj (B5 _)⟩ (Wk.forget A9) ?_
   rintro ⟨j,f2⟩ m5 ⟨d1,d2,Ca1,I,Avi,V⟩ b5;simp only at d1 d2 Ca1 I Avi V;have Aoh:(¬((j:Int)<s.Ei)∨s.Fw=false)->∀u,u<i+1->∀j:Nat,(e.getD u E3).Fw=true->(j:Int)<(e.getD u E3).Ei->(e.getD u E3).base+(j:Int)∈rb∨(e.getD u E3).base+(j:Int)∈f2:=by
     intro hx u Q v w S;rcases BK.1 Q with H | rfl
     . exact Avi u H v w S
     . rw[e6] at w S ⊢;rcases hx with hx | hx
       . exact V v AQ
       . rw[hx] at w;cases w
   cases c6:decide ((j:Int)<s.Ei)
   . simp only[go_sem,Ea,Be,a3,FC,c6,b2];refine b4 (i+1,f2) _ ⟨hit,by simp only;omega,I,Aoh (.inl (Bh c6))⟩ A0 ?_
     (refine Wk.forget ?_;simp[ZF];done)
   cases c7:s.Fw
   . simp only[go_sem,Ea,Be,a3,FC,c6,c7,b2];refine b4 (i+1,f2) _ ⟨hit,by simp only;omega,I,Aoh (.inr c7)⟩ A0 ?_
     (refine Wk.forget ?_;simp[ZF];done)
   have g4:=Bg c6;have b3:=DG j AQ;have a6:i64.wrap (s.base+(j:Int))=s.base+(j:Int):=by rw[C6]<;>omega
   have d0:e.any (inD (s.base+(j:Int)))=true:=by
     rw[Cb];exact ⟨s,JP,by unfold inD;rw[c7];simp;omega⟩
   simp only[go_sem,Ea,Be,a3,FC,c6,c7,a6,C1,e4];refine Bqm rfl rfl ?_;simp only[go_sem,Bhz];refine Bue (Bkf rb (s.base+(j:Int)) AQ) ?_;rintro h' r ⟨rfl,rfl⟩;simp only[go_sem];cases c8:decide (s.base+(j:Int)∈rb);rotate_left
   . simp only[go_sem,c8,b3];refine b5 (j+1,f2) _ ⟨by simp only;omega,by simp only;omega,by simp only;omega,I,Avi,λ v S=>?_⟩ A0 ?_
     . rcases BK.1 S with H | rfl
       . exact V v H
       . exact .inl (Bg c8)
     . (refine Wk.forget ?_;simp[ZF];done)
   . simp only[go_sem,c8,C1];refine ⟨⟨Lr _ _ rfl,AQ⟩,?_⟩;simp only[go_sem,b3];refine b5 (j+1,f2++[s.base+(j:Int)]) _ ⟨by simp only;omega,by simp only;omega,AW,λ x hx=>?_,λ u Q v w S=>?_,λ v S=>?_⟩ A0 ?_
     . rcases BD.1 hx with hx | hx
       . exact I x hx
       . rw[BG] at hx;subst hx;exact ⟨d0,Bh c8⟩
     . rcases Avi u Q v w S with H | H
       . exact .inl H
       . exact .inr (CB _ H)
     . rcases BK.1 S with H | rfl
       . rcases V v H with h6 | h6
         . exact .inl h6
         . exact .inr (CB _ h6)
       . exact .inr AT
     . (refine Wk.forget ?_;simp[ZF,L8,C1];done)
 have c9:i=e.length:=by have:=Bh c5;omega
 subst c9;obtain ⟨s,hs,j,w,hj,Bzm⟩:=Axr a5 _ (rb:=rb) (by have:=Bg c4;rw[Bzd] at Qt;exact Int.lt_of_lt_of_le this Qt);obtain ⟨u,Q,rfl⟩:=Cg.1 hs;have f5:0<U.length:=by
   have H:=Bp7 u Q j (by rw[getD_eq Q];exact w) (by rw[getD_eq Q];exact hj);rw[getD_eq Q] at H;exact List.length_pos_of_mem (H.resolve_left Bzm)
 obtain ⟨v,S,h9⟩:=F6 l b U.length AQ;have h1:1<=k:=by have:=Bg c3;omega
 obtain ⟨k,rfl⟩:∃j,k=j+1:=⟨k - 1,AQ⟩;have Rx:=NI k AQ;have c0:=Fs U v AQ;have e7:(0:Int)<=(v:Int)/\(v:Int)<(U.length:Int):=AQ;have hx:=a1 _ (IF U v 0 AQ);simp only[go_sem,c5,Ea];refine Yu [(5,.box [.ref 43 0 f.length f.length,.ref 48 0 f.length f.length,.ref 102 0 e.length e.length,.ref 188 0 rb.length rb.length,.p (.int .i64 (1+K)),.p (.int .i64 Y),.p (.int .i64 Z),.p (.int .i64 (1+N))]),(177,.arr 3 1 (CT U))] mixed (p:=[(0,0),(1,0),(2,0),(3,0),(4,0),(5,0),(6,2),(7,0),(8,0),(9,1),(10,2),(11,0),(12,3)]) AX A8 ?_;simp only[go_sem,C1];refine Gq ((Hv l b U.length AQ (E2 _ AQ AQ))) ?_;simp only[go_sem,FB,S,C1,Be,c0,e7];refine ⟨⟨Lr _ _ rfl,AQ⟩,?_⟩;simp only[go_sem,Rx];refine ih (k,b+1,rb++[U.getD v 0]) _ ⟨AW,by simp only;omega,Akj W hx.1 hx.2,.inr (by have:=Bg c4;simp;omega)⟩ A0 ?_
 (refine Wk.forget ?_;simp[ZF,L8,C1];done)
theorem Bjw(l)(at_ Ny)(PZ:at_<100000)(f:1<=Ny)(g:Ny<=10):
   C4 prog 7 [.ptr 1000000 0,iD (Ny:Nat)] [(1000000,.box (FB l at_))]
     λ h r=>∃a n,a<=at_+200/\Am3 n/\h=[(1000000,.box (FB l a)),(0,.arr 53 3 (FM n.blocks)),(1,.arr 23 1 (DA n.next)),(2,.arr 57 6 (Gy n.CV)),(3,.arr 3 1 (CT n.C8))]/\r= .agg n.os:=
 (Bdg (λ _ _=>True) (λ n j=>(Bey n j).mono λ _ _ ⟨b,o,sl,cap,h2,e,i⟩=>⟨b,o,sl,cap,h2,e,i,trivial⟩) l at_ Ny PZ f g).mono
   λ _ _ ⟨a,n,b,h2,e⟩=>⟨a,n,b,h2.1,e⟩
theorem Bjx (R:Nt->Prop) (DE:∀(l:Aa) (at_ Ny:Nat),at_<100000->1<=Ny->Ny<=10->C4 prog 7 [.ptr 1000000 0,iD (Ny:Nat)] [(1000000,.box (FB l at_))]
     λ h r=>∃a n,a<=at_+200/\R n/\h=[(1000000,.box (FB l a)),(0,.arr 53 3 (FM n.blocks)),(1,.arr 23 1 (DA n.next)),(2,.arr 57 6 (Gy n.CV)),(3,.arr 3 1 (CT n.C8))]/\r= .agg n.os)
   (l) (at_ Ny) (PZ:at_<100000) (b:1<=Ny) (e:Ny<=10):
   C4 prog 7 [.ptr 1000000 0,iD (Ny:Nat)] [(1000000,.box (FB l at_))]
     λ h r=>∃a n,a<=at_+200/\R n/\h=[(1000000,.box (FB l a))]/\r= .agg n.cs:=by
 refine (DE l at_ Ny PZ b e).seal ?_;rintro m r ⟨a,n,k,h2,rfl,rfl⟩;refine ZA ?_;have f:=Aiq n.blocks n.blocks.length (Bk _);have g:=Aiu n.next n.next.length (Bk _)
 have i:=Ain n.CV n.CV.length (Bk _);have j:=Uz n.C8 n.C8.length (Bk _);unfold Nt.os FB;simp only[go_sem,DB,Du,Ea,C1,f,g,i,j,Rs.all,Sj,B0,List.map_nil];exact ⟨a,n,k,h2,by simp[Nt.cs]⟩
theorem Boe(l)(at_ Ny)(PZ:at_<100000)(b:1<=Ny)(e:Ny<=10):
   C4 prog 7 [.ptr 1000000 0,iD (Ny:Nat)] [(1000000,.box (FB l at_))]
     λ h r=>∃a n,a<=at_+200/\Am3 n/\h=[(1000000,.box (FB l a))]/\r= .agg n.cs:=Bjx Am3 Bjw l at_ Ny PZ b e
def GU{σ ε:Type}(f:σ->Option ε):σ⊕ε->Option ε
 | .inl s=>f s
 | .inr e=>some e
theorem Uq{σ ε:Type}(f:σ->Option ε)(s:σ):GU f (.inl s)=f s:=rfl
theorem Ahs{σ ε:Type}(f:σ->Option ε)(e:ε):GU f (.inr e)=some e:=rfl
def H4{σ ε:Type}(step:σ->Option (σ⊕ε)):Nat->σ->Option ε
 | 0,_=>none
 | n+1,s=>(step s).bind (GU (H4 step n))
def C9{σ ε:Type}(step:σ->Option (σ⊕ε))(s:σ):Option ε:=
 open Classical in if h:∃n e,H4 step n s=some e then some (Classical.choose (Classical.choose_spec h)) else none
theorem Wh{σ ε:Type}{step}:∀{n m:Nat} {s:σ} {e:ε},H4 step n s=some e->n<=m->H4 step m s=some e
 | 0,_,_,_,h,_=>by simp[H4] at h
 | n+1,0,_,_,_,h=>AQ
 | n+1,m+1,s,e,h,f=>by
   simp only[H4] at h ⊢;cases a:step s with
   | none=>rw[a] at h;simp at h
   | some y=>
     rw[a] at h;cases y with
     | inl g=>exact Wh (n:=n) (m:=m) (by simpa [GU] using h) AQ
     | inr b=>simpa [GU] using h
theorem Qm{σ ε:Type}{step}{s:σ}{e:ε}:C9 step s=some e↔∃n,H4 step n s=some e:=by
 constructor
 . intro h;unfold C9 at h;split at h
   . rename_i f;have g:=Classical.choose_spec (Classical.choose_spec f);rw[Bf h] at g;exact ⟨_,g⟩
   . cases h
 . rintro ⟨n,i⟩;unfold C9;have f:∃n e,H4 step n s=some e:=⟨n,e,i⟩;rw[dif_pos f];have g:=Classical.choose_spec (Classical.choose_spec f);have a:=Wh g (Nat.le_max_left _ n);have b:=Wh i (Nat.le_max_right (Classical.choose f) n);rw[a] at b;exact b
theorem Hl{σ ε:Type}(step:σ->Option (σ⊕ε))(s:σ):C9 step s=(step s).bind (GU (C9 step)):=by
 apply Option.ext;intro e;rw[Qm];constructor
 . rintro ⟨n,a⟩;cases n with
   | zero=>simp[H4] at a
   | succ n=>
     simp only[H4] at a;cases b:step s with
     | none=>rw[b] at a;simp at a
     | some y=>
       rw[b] at a;cases y with
       | inl f=>exact Qm.2 ⟨n,by simpa [GU] using a⟩
       | inr g=>simpa [GU] using a
 . intro h;cases b:step s with
   | none=>rw[b] at h;simp at h
   | some y=>
     rw[b] at h;cases y with
     | inl f=>
       obtain ⟨n,a⟩:=Qm.1 (show C9 step f=some e by simpa [GU] using h);exact ⟨n+1,by simpa [H4,b,GU] using a⟩
     | inr g=>exact ⟨1,by simpa [H4,b,GU] using h⟩
theorem Ax9{σ ε:Type}{step}(I:σ->Prop)(μ:σ->Nat)(Q:ε->Prop)
   (h:∀s,I s->∃y,step s=some y/\match y with | .inl a=>I a/\μ a<μ s | .inr e=>Q e) (s:σ) (h0:I s):∃e,C9 step s=some e/\Q e:=by
 have key:∀n s,I s->μ s<n->∃e,C9 step s=some e/\Q e:=by
   intro n
   induction n with
   | zero=>intro s _ h;omega
   | succ n g=>
     intro s f i;obtain ⟨y,b,h2⟩:=h s f;rw[Hl,b];cases y with
     | inl a=>exact g a h2.1 (by have:=h2.2;omega)
     | inr e=>exact ⟨e,rfl,h2⟩
 exact key _ s h0 (Nat.lt_succ_self _)
section
variable {P:AK} {st:St} {x:Code} {k:Kt}
theorem EX{σ ε:Type}{step:σ->Option (σ⊕ε)}{f:σ}{e:ε}(j:C9 step f=some e)(S:σ->St)(m:Wk st (S f))
   (l:∀s n,(step s).bind (GU (H4 step n))=some e->(∀a st',H4 step n a=some e->Wk st' (S a)->L P x k n st')->X P x (.lp x n k) (S s)):X P (.loop x) k st:=by
 obtain ⟨n,i⟩:=Qm.1 j;have key:∀n s,H4 step n s=some e->L P x k n (S s):=by
   intro n
   induction n with
   | zero=>intro s h;simp[H4] at h
   | succ n o=>intro s h;exact ⟨S s,Wk.refl _,l s n h λ a st' g b=>Bbv b (o a g)⟩
 exact Aui _ (Bbv m (key n f i))
end
def CU{α:Type}(l:List α)(i:Int):Option α:=if 0<=i then l[i.toNat]? else none
theorem KH{α:Type}{l}{i:Int}{x:α}(h:CU l i=some x):(0<=i/\i<(l.length:Int))/\l[i.toNat]?=some x:=by
 unfold CU at h;split at h
 . have:=(Bn.1 h).1;exact ⟨AQ,h⟩
 . cases h
theorem EK{α:Type}{l}{i:Int}{x:α}(h:CU l i=some x):0<=i/\i<(l.length:Int):=(KH h).1
theorem D1{α:Type}{l}{i}{x}(f:α->Av)(h:CU l i=some x):(l.map f).getD i.toNat []=f x:=by
 simp[List.getD,(KH h).2]
theorem Be3{α:Type}(l:List α)(i:Nat):CU l (i:Int)=l[i]?:=by
 unfold CU;rw[if_pos AQ];rfl
theorem FX:CT []=[]:=rfl
theorem GZ:Eg []=[]:=rfl
theorem GY:Dn []=[]:=rfl
theorem G1:DA []=[]:=rfl
theorem Ye:Ab5 []=[]:=rfl
theorem Yc:Kp []=[]:=rfl
theorem Yd:FM []=[]:=rfl
theorem Yb:Gy []=[]:=rfl
theorem QD(l):(Dn l).length=l.length:=by simp[Dn]
theorem QK(l):(DA l).length=l.length:=by simp[DA]
theorem QI(l):(FM l).length=l.length:=by simp[FM]
theorem QG(l):(Gy l).length=l.length:=by simp[Gy]
theorem Atr(l)(x):CT l++[[.int .i64 x]]=CT (l++[x]):=by simp[CT]
theorem Ato(l)(x):Eg l++[[.str x]]=Eg (l++[x]):=by simp[Eg]
theorem Atn(l)(x):Dn l++[[.bool x]]=Dn (l++[x]):=by simp[Dn]
theorem Att(l)(x):DA l++[[.sl (CT x)]]=DA (l++[x]):=by simp[DA]
theorem Aei(l)(x):Dn (l++[x])=Dn l++[[.bool x]]:=by simp[Dn]
theorem Aeq(l)(x):DA (l++[x])=DA l++[[.sl (CT x)]]:=by simp[DA]
theorem Ael(l)(x):FM (l++[x])=FM l++[[.str x.name,.int .i64 x.x,.int .i64 x.y]]:=by simp[FM]
theorem Aek(l)(x):Gy (l++[x])=Gy l++[[.str x.name,.bool x.Fw,.int .i64 x.PK,.int .i64 x.out,.int .i64 x.Ei,.int .i64 x.base]]:=by simp[Gy]
theorem Bb3(a b):CT a++CT b=CT (a++b):=by simp[CT]
theorem Bb2(l)(i)(x):(CT l).set i [.int .i64 x]=CT (l.set i x):=by simp[CT,BI]
theorem Bax(l)(i)(x):(Dn l).set i [.bool x]=Dn (l.set i x):=by simp[Dn,BI]
theorem Bb4(l)(i)(x):(DA l).set i [.sl (CT x)]=DA (l.set i x):=by simp[DA,BI]
theorem Wy(l):(CT l).take l.length=CT l:=by simp[CT,<-List.map_take]
theorem Wu(l):(Eg l).take l.length=Eg l:=by simp[Eg,<-List.map_take]
theorem Wt(l):(Dn l).take l.length=Dn l:=by simp[Dn,<-List.map_take]
theorem Wz(l):(DA l).take l.length=DA l:=by simp[DA,<-List.map_take]
theorem WA(l):(Ab5 l).take l.length=Ab5 l:=by simp[Ab5,<-List.map_take]
theorem Ww(l):(Kp l).take l.length=Kp l:=by simp[Kp,<-List.map_take]
theorem Wx(l):(FM l).take l.length=FM l:=by simp[FM,<-List.map_take]
theorem Wv(l):(Gy l).take l.length=Gy l:=by simp[Gy,<-List.map_take]
theorem Atp(l:Aa)(i)(x):(CT (l.set i x)).take l.length=CT (l.set i x):=by rw[Bx];simp[CT]
theorem Atm(l:Ad)(i)(x):(Dn (l.set i x)).take l.length=Dn (l.set i x):=by rw[Bx];simp[Dn]
theorem Ats(l:Ab)(i)(x:Aa):(DA (l.set i x)).take l.length=DA (l.set i x):=by rw[Bx];simp[DA]
theorem Bkt(l)(a b):((CT l).take b).drop a=CT ((l.take b).drop a):=by simp[CT]
theorem Bks(l)(a b):((Eg l).take b).drop a=Eg ((l.take b).drop a):=by simp[Eg]
theorem Bkr(l)(a b):((Dn l).take b).drop a=Dn ((l.take b).drop a):=by simp[Dn]
theorem Bha(n):List.replicate n [Pd.int .i64 0]=CT (List.replicate n 0):=by simp[CT]
theorem Bay(n):List.replicate n [Pd.bool false]=Dn (List.replicate n false):=by simp[Dn]
theorem Bhb(n):List.replicate n [Pd.sl []]=DA (List.replicate n []):=by simp[DA,CT]
theorem J7(l):P0 1 (CT l):=by simp[P0,CT]
theorem TH(l):P0 1 (Eg l):=by simp[P0,Eg]
theorem Jn(l):P0 1 (Dn l):=by intro e a;simp only[Dn,BR] at a;obtain ⟨x,_,rfl⟩:=a;rfl
theorem Apn(l):P0 1 (DA l):=by simp[P0,DA]
theorem Aim(l)(i)(x):Dn (l.set i x)=(Dn l).set i [.bool x]:=by simp[Dn,BI]
theorem Aiw(l)(i)(x):DA (l.set i x)=(DA l).set i [.sl (CT x)]:=by simp[DA,BI]
theorem Aj1(l)(i)(x):Ab5 (l.set i x)=(Ab5 l).set i [.int .i64 x.word,.int .i64 x.line,.sl (Eg x.names),.sl (CT x.Bjr)]:=by simp[Ab5,BI]
theorem Air(l)(i)(x):FM (l.set i x)=(FM l).set i [.str x.name,.int .i64 x.x,.int .i64 x.y]:=by simp[FM,BI]
theorem Aio(l)(i)(x):Gy (l.set i x)=(Gy l).set i [.str x.name,.bool x.Fw,.int .i64 x.PK,.int .i64 x.out,.int .i64 x.Ei,.int .i64 x.base]:=by simp[Gy,BI]
theorem Aen(x):CT [x]=[[.int .i64 x]]:=rfl
theorem Apj(x):Eg [x]=[[.str x]]:=rfl
theorem Api(x):Dn [x]=[[.bool x]]:=rfl
theorem FY(x)(l):CT (x::l)=[.int .i64 x]::CT l:=rfl
theorem FW(x)(l):Eg (x::l)=[.str x]::Eg l:=rfl
theorem FV(x)(l):Dn (x::l)=[.bool x]::Dn l:=rfl
theorem FZ(x)(l):DA (x::l)=[.sl (CT x)]::DA l:=rfl
attribute [go_sem] C1 DC QD QK TR G0 QI QG
attribute [go_sem] List.length_set Atr Ato Atn Att
attribute [go_sem] Bb2 Bax Bb4
attribute [go_sem] Wy Wu Wt Wz WA Ww Wx Wv Bha Bay Int.toNat_natCast
attribute [go_sem] KK.fit Akw Pd.flat Akx
attribute [go_sem] Atp Atm Ats
attribute [go_sem] Bb3 Bkt Bks Bkr
theorem bE{α β:Type}{a}{f:α->Option β}{r:β}(h:a.bind f=some r):∃x,a=some x/\f x=some r:=by
 cases a with
 | none=>cases h
 | some x=>exact ⟨x,rfl,h⟩
theorem bK{α β γ:Type}{a}{f:α->Option β}{k:β->Option γ}{r:γ}(h:(a.bind f).bind k=some r):∃x,a=some x/\(f x).bind k=some r:=by
 cases a with
 | none=>cases h
 | some x=>exact ⟨x,rfl,h⟩
theorem gE{α:Type}{c}{x:Option α}{r:α}(h:cond c x none=some r):c=true/\x=some r:=by
 cases c with
 | false=>cases h
 | true=>exact ⟨rfl,h⟩
theorem gK{α γ:Type}{c}{x:Option α}{k:α->Option γ}{r:γ}(h:(cond c x none).bind k=some r):c=true/\x.bind k=some r:=by
 cases c with
 | false=>cases h
 | true=>exact ⟨rfl,h⟩
theorem Dl{l}{i}{x}(h:CU l i=some x):(CT l).getD i.toNat []=[.int .i64 x]:=D1 _ h
theorem Ya{l}{i}{x}(h:CU l i=some x):(Eg l).getD i.toNat []=[.str x]:=D1 _ h
theorem DZ{l}{i}{x}(h:CU l i=some x):(Dn l).getD i.toNat []=[.bool x]:=D1 _ h
theorem I3{l}{i}{x}(h:CU l i=some x):(DA l).getD i.toNat []=[.sl (CT x)]:=D1 _ h
theorem Avn{l}{i}{x}(h:CU l i=some x):(FM l).getD i.toNat []=[.str x.name,.int .i64 x.x,.int .i64 x.y]:=D1 _ h
theorem Ex{l}{i}{x}(h:CU l i=some x):(Gy l).getD i.toNat []=[.str x.name,.bool x.Fw,.int .i64 x.PK,.int .i64 x.out,.int .i64 x.Ei,.int .i64 x.base]:=D1 _ h
theorem Ais(l):∀e∈CT l,∀c∈e,c.flat=true:=by intro e b c a;simp only[CT,BR] at b;obtain ⟨x,_,rfl⟩:=b;simp only[BX,BN,or_false] at a;subst a;rfl
theorem Zl(l):∀e∈Dn l,∀c∈e,c.flat=true:=by intro e b c a;simp only[Dn,BR] at b;obtain ⟨x,_,rfl⟩:=b;simp only[BX,BN,or_false] at a;subst a;rfl
theorem ZE:(type_of% @FX)/\(type_of% @GZ)/\(type_of% @GY)/\(type_of% @G1)/\(type_of% @Ye)/\(type_of% @Yc)/\(type_of% @Yd)/\(type_of% @Yb)/\(type_of% @Akw)/\(type_of% @Akx)/\(type_of% @FY)/\(type_of% @FW)/\(type_of% @FV)/\(type_of% @FZ)/\(type_of% @Aen)/\(type_of% @Apj)/\(type_of% @Api)/\(type_of% @L8)/\(type_of% @GL)/\(type_of% @Aei)/\(type_of% @Aeq)/\(type_of% @Aj0)/\(type_of% @QH)/\(type_of% @Ael)/\(type_of% @Aek)/\(type_of% @Ow)/\(type_of% @X9)/\(type_of% @Aim)/\(type_of% @Aiw)/\(type_of% @Aj1)/\(type_of% @Air)/\(type_of% @Aio)/\(type_of% @C1)/\(type_of% @DC)/\(type_of% @QD)/\(type_of% @QK)/\(type_of% @TR)/\(type_of% @G0)/\(type_of% @QI)/\(type_of% @QG):=⟨@FX,@GZ,@GY,@G1,@Ye,@Yc,@Yd,@Yb,@Akw,@Akx,@FY,@FW,@FV,@FZ,@Aen,@Apj,@Api,@L8,@GL,@Aei,@Aeq,@Aj0,@QH,@Ael,@Aek,@Ow,@X9,@Aim,@Aiw,@Aj1,@Air,@Aio,@C1,@DC,@QD,@QK,@TR,@G0,@QI,@QG⟩
theorem ZB:(type_of% @Wy)/\(type_of% @Wu)/\(type_of% @Wt)/\(type_of% @Wz)/\(type_of% @WA)/\(type_of% @Ww)/\(type_of% @Wx)/\(type_of% @Wv)/\(type_of% @C1)/\(type_of% @DC)/\(type_of% @QD)/\(type_of% @QK)/\(type_of% @TR)/\(type_of% @G0)/\(type_of% @QI)/\(type_of% @QG)/\(type_of% @FX)/\(type_of% @GZ)/\(type_of% @GY)/\(type_of% @G1)/\(type_of% @Ye)/\(type_of% @Yc)/\(type_of% @Yd)/\(type_of% @Yb):=⟨@Wy,@Wu,@Wt,@Wz,@WA,@Ww,@Wx,@Wv,@C1,@DC,@QD,@QK,@TR,@G0,@QI,@QG,@FX,@GZ,@GY,@G1,@Ye,@Yc,@Yd,@Yb⟩
theorem Amj(l)(x)(h:l≠[]):Et (l++[x])=Et l++[32]++x:=by
 cases l with
 | nil=>exact (h rfl).elim
 | cons y r=>simp[Et]
theorem Auz(a b):PX (a++b)=PX a+PX b:=by
 induction a with
 | nil=>simp[PX]
 | cons x r e=>simp only[CD,PX,e];omega
theorem Bcu(l)(i):PX (l.take i)<=PX l:=by
 have:=Auz (l.take i) (l.drop i);rw[List.take_append_drop] at this;omega
theorem Awa(l):(Et l).length<=PX l:=by
 cases l with
 | nil=>simp[Et,PX]
 | cons x r=>have:=VR (x::r) AT;omega
theorem Bcn(fs)(t:fs.length<=100000000)(u:PX fs<=1000000000000):C4 prog 57 [sD (Eg fs)] [] λ h r=>h=[]/\r= .p (.str (Et fs)):=by
 refine Dw func57 rfl Bg7 (by simp[Tryz.f57]) ?_;simp only[go_sem];refine Dm (λ i:Nat=>⟨[(0,.p (.sl (Eg fs))),(3,.p (.str (Et (fs.take i)))),(4,.p (.int .i64 (i:Nat)))],[],22⟩) (λ i=>i<=fs.length) (λ i=>fs.length - i) 0 (BO _) (Wk.forget (by simp[ZF,List.take_zero,Et])) ?_;intro i n s o;simp only[go_sem,DC];refine D2 (λ e=>?_) (λ e=>?_)
 . have Dv:i<fs.length:=by simp at e;omega
   have FC:(0:Int)<=(i:Int)/\(i:Int)<(fs.length:Int):=AQ;have q:=DG i AQ;have l:=Lj fs i Dv;have a:fs.take (i+1)=fs.take i++[fs.getD i []]:=by
     rw[Cp Dv];simp[List.getD,Dv]
   have Bse:=Bcu fs (i+1);have m:=Awa (fs.take i);rw[a,Auz] at Bse;generalize hx:fs.getD i []=x at*;simp only[PX] at Bse;by_cases k:i=0
   . subst k;have j:fs.take (0+1)=[x]:=by rw[a];simp
     have f:(0:Int)<(fs.length:Int):=AQ;have Bk6:i64.wrap 1=1:=rfl;simp only[go_sem,DC,Be,l,f,Int.reduceToNat,List.take_zero,Et];refine ⟨by unfold maxLen;simp[Et];omega,?_⟩;refine o (0+1) _ Dv AQ (Wk.forget (by simp[ZF,j,Et,List.flatMap_nil,Bk6]))
   . have EH:fs.take i≠[]:=by
       intro h;have:=B3 List.length h;simp at this;rcases this with h | h
       . exact k h
       . subst h;simp at Dv
     have f:(0:Int)<(i:Int):=AQ;have b:=Amj (fs.take i) x EH;rw[<-a] at b;simp only[go_sem,DC,Be,l,f,FC];refine ⟨by unfold maxLen;simp;omega,by unfold maxLen;simp;omega,?_⟩;simp only[go_sem,q];refine o (i+1) _ Dv AQ (Wk.forget (by simp[ZF,b]))
 . have g:i=fs.length:=by simp at e;omega
   subst g;simp only[go_sem,BE]
structure KP where
 state:Int
 Fc:Bool
 Ev:Int
 cell:Int
 Ff:Int
 seq:Int
 DH:Bool
 LF:Bool
 DY:Int
 Dx:Int
 De:Aa
 wait:Int
 EI:Int
structure Tsk where
 pick:Int
 drop:Int
 state:Int
 CZ:Int
 over:Int
structure KM where
 CQ:Aa
 CR:Ab
structure Me where
 closed:Ad
 Dp:Aa
 C0:Aa
structure Lo where
 CQ:Aa
 CR:Ab
 closed:Ad
 Dp:Aa
 C0:Aa
 CO:List KP
 CS:List Tsk
 C7:Bool
structure Ldg where
 closed:Ad
 Dp:Aa
 C0:Aa
 CS:List Tsk
 CO:List KP
structure O6 where
 cell:Int
 Ff:Int
 Qe:Bool
 H5:Bool
structure WR where
 last:Int
 Ff:Int
 serve:Bool
 Ix:Int
 cell:Int
structure U7 where
 kind:Int
 CZ:Int
 seq:Int
 cell:Int
 flag:Int
structure O5 where
 CQ:Aa
 CR:Ab
 closed:Ad
 Dp:Aa
 C0:Aa
 CO:List KP
 CS:List Tsk
 C7:Bool
 CX:List O6
 CY:List WR
 down:List (List U7)
 up:List (List U7)
structure G9 where
 kind:Int
 a:Int
 b:Int
 text:Ac
structure Ety where
 at_:Int
 kind:Int
 a:Int
 b:Int
structure Gnt where
 CZ:Int
 cell:Int
structure Ni where
 DV:List U7
 CP:List Ety
 FG:List Gnt
 DO:Aa
 DD:Aa
structure Cm4 where
 kind:Int
 a:Ac
 b:Ac
 n:Int
structure OU where
 kind:Int
 n:Int
structure Dty where
 CZ:Int
 kind:Int
 age:Int
structure Fnd where
 kind:Int
 entry:Int
 who:Int
structure DX where
 blocks:List Blk
 next:Ab
 CV:List Su
 C8:Aa
 cq:Int
 ca:Int
 cd:Int
 cp:Int
 CQ:Aa
 CR:Ab
 closed:Ad
 Dp:Aa
 C0:Aa
 CO:List KP
 CS:List Tsk
 C7:Bool
 DV:List U7
 CP:List Ety
 FG:List Gnt
 DO:Aa
 DD:Aa
structure GI where
 blocks:List Blk
 next:Ab
 CV:List Su
 C8:Aa
 cq:Int
 ca:Int
 cd:Int
 cp:Int
 CQ:Aa
 CR:Ab
 closed:Ad
 Dp:Aa
 C0:Aa
 CO:List KP
 CS:List Tsk
 C7:Bool
 CX:List O6
 CY:List WR
 down:List (List U7)
 up:List (List U7)
 Hi:List Ety
def Ed(l:List KP):Ae:=l.map λ x=>[.int .i64 x.state,.bool x.Fc,.int .i64 x.Ev,.int .i64 x.cell,.int .i64 x.Ff,.int .u64 x.seq,.bool x.DH,.bool x.LF,.int .i64 x.DY,.int .i64 x.Dx,.sl (CT x.De),.int .i64 x.wait,.int .i64 x.EI]
theorem Db{l}{i}{x}(h:CU l i=some x):(Ed l).getD i.toNat []=[.int .i64 x.state,.bool x.Fc,.int .i64 x.Ev,.int .i64 x.cell,.int .i64 x.Ff,.int .u64 x.seq,.bool x.DH,.bool x.LF,.int .i64 x.DY,.int .i64 x.Dx,.sl (CT x.De),.int .i64 x.wait,.int .i64 x.EI]:=D1 _ h
theorem X5:Ed []=[]:=rfl
theorem Aeg(x)(l):Ed (x::l)=[.int .i64 x.state,.bool x.Fc,.int .i64 x.Ev,.int .i64 x.cell,.int .i64 x.Ff,.int .u64 x.seq,.bool x.DH,.bool x.LF,.int .i64 x.DY,.int .i64 x.Dx,.sl (CT x.De),.int .i64 x.wait,.int .i64 x.EI]::Ed l:=rfl
theorem QB(l):(Ed l).length=l.length:=by simp[Ed]
theorem Atj(l)(v0)(v1)(v2)(v3)(v4)(v5)(v6)(v7)(v8)(v9)(v10)(v11)(v12):Ed l++[[.int .i64 v0,.bool v1,.int .i64 v2,.int .i64 v3,.int .i64 v4,.int .u64 v5,.bool v6,.bool v7,.int .i64 v8,.int .i64 v9,.sl (CT v10),.int .i64 v11,.int .i64 v12]]=Ed (l++[⟨v0,v1,v2,v3,v4,v5,v6,v7,v8,v9,v10,v11,v12⟩]):=by simp[Ed]
theorem Aef(l)(x):Ed (l++[x])=Ed l++[[.int .i64 x.state,.bool x.Fc,.int .i64 x.Ev,.int .i64 x.cell,.int .i64 x.Ff,.int .u64 x.seq,.bool x.DH,.bool x.LF,.int .i64 x.DY,.int .i64 x.Dx,.sl (CT x.De),.int .i64 x.wait,.int .i64 x.EI]]:=by simp[Ed]
theorem Bav(l)(i)(v0)(v1)(v2)(v3)(v4)(v5)(v6)(v7)(v8)(v9)(v10)(v11)(v12):(Ed l).set i [.int .i64 v0,.bool v1,.int .i64 v2,.int .i64 v3,.int .i64 v4,.int .u64 v5,.bool v6,.bool v7,.int .i64 v8,.int .i64 v9,.sl (CT v10),.int .i64 v11,.int .i64 v12]=Ed (l.set i ⟨v0,v1,v2,v3,v4,v5,v6,v7,v8,v9,v10,v11,v12⟩):=by simp[Ed,BI]
theorem Aik(l)(i)(x):Ed (l.set i x)=(Ed l).set i [.int .i64 x.state,.bool x.Fc,.int .i64 x.Ev,.int .i64 x.cell,.int .i64 x.Ff,.int .u64 x.seq,.bool x.DH,.bool x.LF,.int .i64 x.DY,.int .i64 x.Dx,.sl (CT x.De),.int .i64 x.wait,.int .i64 x.EI]:=by simp[Ed,BI]
theorem Ws(l):(Ed l).take l.length=Ed l:=Bx (by simp[Ed])
theorem Ath(l:List KP)(i)(x):(Ed (l.set i x)).take l.length=Ed (l.set i x):=Bx (by simp[Ed])
theorem Apg(l):P0 13 (Ed l):=by intro e a;simp only[Ed,BR] at a;obtain ⟨x,_,rfl⟩:=a;rfl
def DF(l:List Tsk):Ae:=l.map λ x=>[.int .i64 x.pick,.int .i64 x.drop,.int .i64 x.state,.int .i64 x.CZ,.int .i64 x.over]
theorem EG{l}{i}{x}(h:CU l i=some x):(DF l).getD i.toNat []=[.int .i64 x.pick,.int .i64 x.drop,.int .i64 x.state,.int .i64 x.CZ,.int .i64 x.over]:=D1 _ h
theorem Uy:DF []=[]:=rfl
theorem r9(x)(l):DF (x::l)=[.int .i64 x.pick,.int .i64 x.drop,.int .i64 x.state,.int .i64 x.CZ,.int .i64 x.over]::DF l:=rfl
theorem Ou(l):(DF l).length=l.length:=by simp[DF]
theorem Aph(l)(v0)(v1)(v2)(v3)(v4):DF l++[[.int .i64 v0,.int .i64 v1,.int .i64 v2,.int .i64 v3,.int .i64 v4]]=DF (l++[⟨v0,v1,v2,v3,v4⟩]):=by simp[DF]
theorem r8(l)(x):DF (l++[x])=DF l++[[.int .i64 x.pick,.int .i64 x.drop,.int .i64 x.state,.int .i64 x.CZ,.int .i64 x.over]]:=by simp[DF]
theorem Atl(l)(i)(v0)(v1)(v2)(v3)(v4):(DF l).set i [.int .i64 v0,.int .i64 v1,.int .i64 v2,.int .i64 v3,.int .i64 v4]=DF (l.set i ⟨v0,v1,v2,v3,v4⟩):=by simp[DF,BI]
theorem Aeh(l)(i)(x):DF (l.set i x)=(DF l).set i [.int .i64 x.pick,.int .i64 x.drop,.int .i64 x.state,.int .i64 x.CZ,.int .i64 x.over]:=by simp[DF,BI]
theorem TF(l):(DF l).take l.length=DF l:=Bx (by simp[DF])
theorem Ail(l):P0 5 (DF l):=by intro e a;simp only[DF,BR] at a;obtain ⟨x,_,rfl⟩:=a;rfl
def Ek(l:List O6):Ae:=l.map λ x=>[.int .i64 x.cell,.int .i64 x.Ff,.bool x.Qe,.bool x.H5]
theorem TT{l}{i}{x}(h:CU l i=some x):(Ek l).getD i.toNat []=[.int .i64 x.cell,.int .i64 x.Ff,.bool x.Qe,.bool x.H5]:=D1 _ h
theorem UG:Ek []=[]:=rfl
theorem Aa3(x)(l):Ek (x::l)=[.int .i64 x.cell,.int .i64 x.Ff,.bool x.Qe,.bool x.H5]::Ek l:=rfl
theorem OD(l):(Ek l).length=l.length:=by simp[Ek]
theorem Apw(l)(v0)(v1)(v2)(v3):Ek l++[[.int .i64 v0,.int .i64 v1,.bool v2,.bool v3]]=Ek (l++[⟨v0,v1,v2,v3⟩]):=by simp[Ek]
theorem Aa2(l)(x):Ek (l++[x])=Ek l++[[.int .i64 x.cell,.int .i64 x.Ff,.bool x.Qe,.bool x.H5]]:=by simp[Ek]
theorem Atw(l)(i)(v0)(v1)(v2)(v3):(Ek l).set i [.int .i64 v0,.int .i64 v1,.bool v2,.bool v3]=Ek (l.set i ⟨v0,v1,v2,v3⟩):=by simp[Ek,BI]
theorem Aew(l)(i)(x):Ek (l.set i x)=(Ek l).set i [.int .i64 x.cell,.int .i64 x.Ff,.bool x.Qe,.bool x.H5]:=by simp[Ek,BI]
theorem TS(l):(Ek l).take l.length=Ek l:=Bx (by simp[Ek])
theorem Apv(l:List O6)(i)(x):(Ek (l.set i x)).take l.length=Ek (l.set i x):=Bx (by simp[Ek])
theorem Aj2(l):P0 4 (Ek l):=by intro e a;simp only[Ek,BR] at a;obtain ⟨x,_,rfl⟩:=a;rfl
def ED(l:List WR):Ae:=l.map λ x=>[.int .u64 x.last,.int .i64 x.Ff,.bool x.serve,.int .i64 x.Ix,.int .i64 x.cell]
theorem Lk{l}{i}{x}(h:CU l i=some x):(ED l).getD i.toNat []=[.int .u64 x.last,.int .i64 x.Ff,.bool x.serve,.int .i64 x.Ix,.int .i64 x.cell]:=D1 _ h
theorem UI:ED []=[]:=rfl
theorem Aa8(x)(l):ED (x::l)=[.int .u64 x.last,.int .i64 x.Ff,.bool x.serve,.int .i64 x.Ix,.int .i64 x.cell]::ED l:=rfl
theorem OF(l):(ED l).length=l.length:=by simp[ED]
theorem Apx(l)(v0)(v1)(v2)(v3)(v4):ED l++[[.int .u64 v0,.int .i64 v1,.bool v2,.int .i64 v3,.int .i64 v4]]=ED (l++[⟨v0,v1,v2,v3,v4⟩]):=by simp[ED]
theorem Aa7(l)(x):ED (l++[x])=ED l++[[.int .u64 x.last,.int .i64 x.Ff,.bool x.serve,.int .i64 x.Ix,.int .i64 x.cell]]:=by simp[ED]
theorem Atx(l)(i)(v0)(v1)(v2)(v3)(v4):(ED l).set i [.int .u64 v0,.int .i64 v1,.bool v2,.int .i64 v3,.int .i64 v4]=ED (l.set i ⟨v0,v1,v2,v3,v4⟩):=by simp[ED,BI]
theorem Aey(l)(i)(x):ED (l.set i x)=(ED l).set i [.int .u64 x.last,.int .i64 x.Ff,.bool x.serve,.int .i64 x.Ix,.int .i64 x.cell]:=by simp[ED,BI]
theorem TW(l):(ED l).take l.length=ED l:=Bx (by simp[ED])
theorem Aj4(l):P0 5 (ED l):=by intro e a;simp only[ED,BR] at a;obtain ⟨x,_,rfl⟩:=a;rfl
def Eu(l:List U7):Ae:=l.map λ x=>[.int .i64 x.kind,.int .i64 x.CZ,.int .u64 x.seq,.int .i64 x.cell,.int .i64 x.flag]
theorem Oz{l}{i}{x}(h:CU l i=some x):(Eu l).getD i.toNat []=[.int .i64 x.kind,.int .i64 x.CZ,.int .u64 x.seq,.int .i64 x.cell,.int .i64 x.flag]:=D1 _ h
theorem UB:Eu []=[]:=rfl
theorem u7(x)(l):Eu (x::l)=[.int .i64 x.kind,.int .i64 x.CZ,.int .u64 x.seq,.int .i64 x.cell,.int .i64 x.flag]::Eu l:=rfl
theorem Oy(l):(Eu l).length=l.length:=by simp[Eu]
theorem Apq(l)(v0)(v1)(v2)(v3)(v4):Eu l++[[.int .i64 v0,.int .i64 v1,.int .u64 v2,.int .i64 v3,.int .i64 v4]]=Eu (l++[⟨v0,v1,v2,v3,v4⟩]):=by simp[Eu]
theorem u4(l)(x):Eu (l++[x])=Eu l++[[.int .i64 x.kind,.int .i64 x.CZ,.int .u64 x.seq,.int .i64 x.cell,.int .i64 x.flag]]:=by simp[Eu]
theorem Atu(a b):Eu a++Eu b=Eu (a++b):=by simp[Eu]
theorem Aer(l)(i)(x):Eu (l.set i x)=(Eu l).set i [.int .i64 x.kind,.int .i64 x.CZ,.int .u64 x.seq,.int .i64 x.cell,.int .i64 x.flag]:=by simp[Eu,BI]
theorem TM(l):(Eu l).take l.length=Eu l:=Bx (by simp[Eu])
theorem Bhc(l)(a b):((Eu l).take b).drop a=Eu ((l.take b).drop a):=by simp[Eu]
theorem QM(l):P0 5 (Eu l):=by intro e a;simp only[Eu,BR] at a;obtain ⟨x,_,rfl⟩:=a;rfl
def E5(l:List G9):Ae:=l.map λ x=>[.int .i64 x.kind,.int .i64 x.a,.int .i64 x.b,.str x.text]
theorem MV{l}{i}{x}(h:CU l i=some x):(E5 l).getD i.toNat []=[.int .i64 x.kind,.int .i64 x.a,.int .i64 x.b,.str x.text]:=D1 _ h
theorem UD:E5 []=[]:=rfl
theorem x0(x)(l):E5 (x::l)=[.int .i64 x.kind,.int .i64 x.a,.int .i64 x.b,.str x.text]::E5 l:=rfl
theorem GR(l):(E5 l).length=l.length:=by simp[E5]
theorem Apr(l)(v0)(v1)(v2)(v3):E5 l++[[.int .i64 v0,.int .i64 v1,.int .i64 v2,.str v3]]=E5 (l++[⟨v0,v1,v2,v3⟩]):=by simp[E5]
theorem w9(l)(x):E5 (l++[x])=E5 l++[[.int .i64 x.kind,.int .i64 x.a,.int .i64 x.b,.str x.text]]:=by simp[E5]
theorem Aet(l)(i)(x):E5 (l.set i x)=(E5 l).set i [.int .i64 x.kind,.int .i64 x.a,.int .i64 x.b,.str x.text]:=by simp[E5,BI]
theorem TO(l):(E5 l).take l.length=E5 l:=Bx (by simp[E5])
theorem Aix(l):P0 4 (E5 l):=by intro e a;simp only[E5,BR] at a;obtain ⟨x,_,rfl⟩:=a;rfl
def FL(l:List Ety):Ae:=l.map λ x=>[.int .i64 x.at_,.int .i64 x.kind,.int .i64 x.a,.int .i64 x.b]
theorem UE:FL []=[]:=rfl
theorem z8(x)(l):FL (x::l)=[.int .i64 x.at_,.int .i64 x.kind,.int .i64 x.a,.int .i64 x.b]::FL l:=rfl
theorem OB(l):(FL l).length=l.length:=by simp[FL]
theorem Aps(l)(v0)(v1)(v2)(v3):FL l++[[.int .i64 v0,.int .i64 v1,.int .i64 v2,.int .i64 v3]]=FL (l++[⟨v0,v1,v2,v3⟩]):=by simp[FL]
theorem z7(l)(x):FL (l++[x])=FL l++[[.int .i64 x.at_,.int .i64 x.kind,.int .i64 x.a,.int .i64 x.b]]:=by simp[FL]
theorem Atv(a b):FL a++FL b=FL (a++b):=by simp[FL]
theorem Aeu(l)(i)(x):FL (l.set i x)=(FL l).set i [.int .i64 x.at_,.int .i64 x.kind,.int .i64 x.a,.int .i64 x.b]:=by simp[FL,BI]
theorem TP(l):(FL l).take l.length=FL l:=Bx (by simp[FL])
theorem Aiy(l):P0 4 (FL l):=by intro e a;simp only[FL,BR] at a;obtain ⟨x,_,rfl⟩:=a;rfl
def Hz(l:List Gnt):Ae:=l.map λ x=>[.int .i64 x.CZ,.int .i64 x.cell]
theorem Apm{l}{i}{x}(h:CU l i=some x):(Hz l).getD i.toNat []=[.int .i64 x.CZ,.int .i64 x.cell]:=D1 _ h
theorem UA:Hz []=[]:=rfl
theorem u0(x)(l):Hz (x::l)=[.int .i64 x.CZ,.int .i64 x.cell]::Hz l:=rfl
theorem Ox(l):(Hz l).length=l.length:=by simp[Hz]
theorem Apl(l)(v0)(v1):Hz l++[[.int .i64 v0,.int .i64 v1]]=Hz (l++[⟨v0,v1⟩]):=by simp[Hz]
theorem s9(l)(x):Hz (l++[x])=Hz l++[[.int .i64 x.CZ,.int .i64 x.cell]]:=by simp[Hz]
theorem Aep(l)(i)(x):Hz (l.set i x)=(Hz l).set i [.int .i64 x.CZ,.int .i64 x.cell]:=by simp[Hz,BI]
theorem TJ(l):(Hz l).take l.length=Hz l:=Bx (by simp[Hz])
theorem Ait(l):P0 2 (Hz l):=by intro e a;simp only[Hz,BR] at a;obtain ⟨x,_,rfl⟩:=a;rfl
def Nn(l:List OU):Ae:=l.map λ x=>[.int .i64 x.kind,.int .i64 x.n]
theorem UH:Nn []=[]:=rfl
theorem Aa6(x)(l):Nn (x::l)=[.int .i64 x.kind,.int .i64 x.n]::Nn l:=rfl
theorem OE(l):(Nn l).length=l.length:=by simp[Nn]
theorem Aa5(l)(x):Nn (l++[x])=Nn l++[[.int .i64 x.kind,.int .i64 x.n]]:=by simp[Nn]
theorem Aex(l)(i)(x):Nn (l.set i x)=(Nn l).set i [.int .i64 x.kind,.int .i64 x.n]:=by simp[Nn,BI]
theorem TV(l):(Nn l).take l.length=Nn l:=Bx (by simp[Nn])
theorem Aj3(l):P0 2 (Nn l):=by intro e a;simp only[Nn,BR] at a;obtain ⟨x,_,rfl⟩:=a;rfl
def Jo(l:List Dty):Ae:=l.map λ x=>[.int .i64 x.CZ,.int .i64 x.kind,.int .i64 x.age]
theorem Apu{l}{i}{x}(h:CU l i=some x):(Jo l).getD i.toNat []=[.int .i64 x.CZ,.int .i64 x.kind,.int .i64 x.age]:=D1 _ h
theorem UF:Jo []=[]:=rfl
theorem Aa1(x)(l):Jo (x::l)=[.int .i64 x.CZ,.int .i64 x.kind,.int .i64 x.age]::Jo l:=rfl
theorem OC(l):(Jo l).length=l.length:=by simp[Jo]
theorem Apt(l)(v0)(v1)(v2):Jo l++[[.int .i64 v0,.int .i64 v1,.int .i64 v2]]=Jo (l++[⟨v0,v1,v2⟩]):=by simp[Jo]
theorem Aa0(l)(x):Jo (l++[x])=Jo l++[[.int .i64 x.CZ,.int .i64 x.kind,.int .i64 x.age]]:=by simp[Jo]
theorem Aev(l)(i)(x):Jo (l.set i x)=(Jo l).set i [.int .i64 x.CZ,.int .i64 x.kind,.int .i64 x.age]:=by simp[Jo,BI]
theorem TQ(l):(Jo l).take l.length=Jo l:=Bx (by simp[Jo])
theorem Aiz(l):P0 3 (Jo l):=by intro e a;simp only[Jo,BR] at a;obtain ⟨x,_,rfl⟩:=a;rfl
def Pp(l:List Fnd):Ae:=l.map λ x=>[.int .i64 x.kind,.int .i64 x.entry,.int .i64 x.who]
theorem UC:Pp []=[]:=rfl
theorem w8(x)(l):Pp (x::l)=[.int .i64 x.kind,.int .i64 x.entry,.int .i64 x.who]::Pp l:=rfl
theorem OA(l):(Pp l).length=l.length:=by simp[Pp]
theorem u9(l)(x):Pp (l++[x])=Pp l++[[.int .i64 x.kind,.int .i64 x.entry,.int .i64 x.who]]:=by simp[Pp]
theorem Aes(l)(i)(x):Pp (l.set i x)=(Pp l).set i [.int .i64 x.kind,.int .i64 x.entry,.int .i64 x.who]:=by simp[Pp,BI]
theorem TN(l):(Pp l).take l.length=Pp l:=Bx (by simp[Pp])
def Da(l:List (List U7)):Ae:=l.map λ x=>[.sl (Eu x)]
theorem Eo{l}{i}{x}(h:CU l i=some x):(Da l).getD i.toNat []=[.sl (Eu x)]:=D1 _ h
theorem Po:Da []=[]:=rfl
theorem VI(x)(l):Da (x::l)=[.sl (Eu x)]::Da l:=rfl
theorem Li(l):(Da l).length=l.length:=by simp[Da]
theorem Agm(l)(x):Da l++[[.sl (Eu x)]]=Da (l++[x]):=by simp[Da]
theorem VH(l)(x):Da (l++[x])=Da l++[[.sl (Eu x)]]:=by simp[Da]
theorem Alk(l)(i)(x):(Da l).set i [.sl (Eu x)]=Da (l.set i x):=by simp[Da,BI]
theorem X6(l)(i)(x):Da (l.set i x)=(Da l).set i [.sl (Eu x)]:=by simp[Da,BI]
theorem PT(l):(Da l).take l.length=Da l:=Bx (by simp[Da])
theorem s5(l):P0 1 (Da l):=by intro e a;simp only[Da,BR] at a;obtain ⟨x,_,rfl⟩:=a;rfl
theorem Agl(l):Da l++[[.sl []]]=Da (l++[[]]):=by simp[Da,Eu]
theorem Alj(l)(i):(Da l).set i [.sl []]=Da (l.set i []):=by simp[Da,Eu,BI]
attribute [go_sem] Agl Alj
attribute [go_sem] QB Atj Bav Ws Ath Ou Aph Atl TF OD Apw Atw TS Apv OF Apx Atx TW
attribute [go_sem] Oy Apq TM Atu Bhc GR Apr TO OB Aps TP Atv Ox Apl TJ
attribute [go_sem] OE TV OC Apt TQ OA TN Li Agm Alk PT
theorem ZEu:(type_of% @X5)/\(type_of% @Aeg)/\(type_of% @Aef)/\(type_of% @Aik)/\(type_of% @QB)/\(type_of% @Uy)/\(type_of% @r9)/\(type_of% @r8)/\(type_of% @Aeh)/\(type_of% @Ou)/\(type_of% @UG)/\(type_of% @Aa3)/\(type_of% @Aa2)/\(type_of% @Aew)/\(type_of% @OD)/\(type_of% @UI)/\(type_of% @Aa8)/\(type_of% @Aa7)/\(type_of% @Aey)/\(type_of% @OF)/\(type_of% @UB)/\(type_of% @u7)/\(type_of% @u4)/\(type_of% @Aer)/\(type_of% @Oy)/\(type_of% @UD)/\(type_of% @x0)/\(type_of% @w9)/\(type_of% @Aet)/\(type_of% @GR)/\(type_of% @UE)/\(type_of% @z8)/\(type_of% @z7)/\(type_of% @Aeu)/\(type_of% @OB)/\(type_of% @UA)/\(type_of% @u0)/\(type_of% @s9)/\(type_of% @Aep)/\(type_of% @Ox)/\(type_of% @UH)/\(type_of% @Aa6)/\(type_of% @Aa5)/\(type_of% @Aex)/\(type_of% @OE)/\(type_of% @UF)/\(type_of% @Aa1)/\(type_of% @Aa0)/\(type_of% @Aev)/\(type_of% @OC)/\(type_of% @UC)/\(type_of% @w8)/\(type_of% @u9)/\(type_of% @Aes)/\(type_of% @OA)/\(type_of% @Po)/\(type_of% @VI)/\(type_of% @VH)/\(type_of% @X6)/\(type_of% @Li):=⟨@X5,@Aeg,@Aef,@Aik,@QB,@Uy,@r9,@r8,@Aeh,@Ou,@UG,@Aa3,@Aa2,@Aew,@OD,@UI,@Aa8,@Aa7,@Aey,@OF,@UB,@u7,@u4,@Aer,@Oy,@UD,@x0,@w9,@Aet,@GR,@UE,@z8,@z7,@Aeu,@OB,@UA,@u0,@s9,@Aep,@Ox,@UH,@Aa6,@Aa5,@Aex,@OE,@UF,@Aa1,@Aa0,@Aev,@OC,@UC,@w8,@u9,@Aes,@OA,@Po,@VI,@VH,@X6,@Li⟩
theorem ZBu:(type_of% @Ws)/\(type_of% @QB)/\(type_of% @X5)/\(type_of% @TF)/\(type_of% @Ou)/\(type_of% @Uy)/\(type_of% @TS)/\(type_of% @OD)/\(type_of% @UG)/\(type_of% @TW)/\(type_of% @OF)/\(type_of% @UI)/\(type_of% @TM)/\(type_of% @Oy)/\(type_of% @UB)/\(type_of% @TO)/\(type_of% @GR)/\(type_of% @UD)/\(type_of% @TP)/\(type_of% @OB)/\(type_of% @UE)/\(type_of% @TJ)/\(type_of% @Ox)/\(type_of% @UA)/\(type_of% @TV)/\(type_of% @OE)/\(type_of% @UH)/\(type_of% @TQ)/\(type_of% @OC)/\(type_of% @UF)/\(type_of% @TN)/\(type_of% @OA)/\(type_of% @UC)/\(type_of% @PT)/\(type_of% @Li)/\(type_of% @Po):=⟨@Ws,@QB,@X5,@TF,@Ou,@Uy,@TS,@OD,@UG,@TW,@OF,@UI,@TM,@Oy,@UB,@TO,@GR,@UD,@TP,@OB,@UE,@TJ,@Ox,@UA,@TV,@OE,@UH,@TQ,@OC,@UF,@TN,@OA,@UC,@PT,@Li,@Po⟩
def DX.h(a:DX):Hp:=[(1000000,.box [.p (.sl (FM a.blocks)),.p (.sl (DA a.next)),.p (.sl (Gy a.CV)),.p (.sl (CT a.C8)),.p (.int .i64 a.cq),.p (.int .i64 a.ca),.p (.int .i64 a.cd),.p (.int .i64 a.cp),.p (.sl (CT a.CQ)),.p (.sl (DA a.CR)),.p (.sl (Dn a.closed)),.p (.sl (CT a.Dp)),.p (.sl (CT a.C0)),.ref 1000001 0 a.CO.length a.CO.length,.ref 1000002 0 a.CS.length a.CS.length,.p (.bool a.C7),.ref 1000003 0 a.DV.length a.DV.length,.ref 1000004 0 a.CP.length a.CP.length,.ref 1000005 0 a.FG.length a.FG.length,.ref 1000006 0 a.DO.length a.DO.length,.ref 1000007 0 a.DD.length a.DD.length]),(1000001,.arr 171 13 (Ed a.CO)),(1000002,.arr 229 5 (DF a.CS)),(1000003,.arr 178 5 (Eu a.DV)),(1000004,.arr 242 4 (FL a.CP)),(1000005,.arr 205 2 (Hz a.FG)),(1000006,.arr 3 1 (CT a.DO)),(1000007,.arr 3 1 (CT a.DD))]
attribute [go_sem] DX.h
def DX.h2(a:DX):Hp:=[(1000000,.box [.p (.sl (FM a.blocks)),.p (.sl (DA a.next)),.p (.sl (Gy a.CV)),.p (.sl (CT a.C8)),.p (.int .i64 a.cq),.p (.int .i64 a.ca),.p (.int .i64 a.cd),.p (.int .i64 a.cp),.p (.sl (CT a.CQ)),.p (.sl (DA a.CR)),.p (.sl (Dn a.closed)),.p (.sl (CT a.Dp)),.p (.sl (CT a.C0)),.ref 1000001 0 a.CO.length a.CO.length,.p (.sl (DF a.CS)),.p (.bool a.C7),.ref 1000002 0 a.DV.length a.DV.length,.ref 1000003 0 a.CP.length a.CP.length,.ref 1000004 0 a.FG.length a.FG.length,.ref 1000005 0 a.DO.length a.DO.length,.ref 1000006 0 a.DD.length a.DD.length]),(1000001,.arr 171 13 (Ed a.CO)),(1000002,.arr 178 5 (Eu a.DV)),(1000003,.arr 242 4 (FL a.CP)),(1000004,.arr 205 2 (Hz a.FG)),(1000005,.arr 3 1 (CT a.DO)),(1000006,.arr 3 1 (CT a.DD))]
attribute [go_sem] DX.h2
def GI.h(a:GI):Hp:=[(1000000,.box [.p (.sl (FM a.blocks)),.p (.sl (DA a.next)),.p (.sl (Gy a.CV)),.p (.sl (CT a.C8)),.p (.int .i64 a.cq),.p (.int .i64 a.ca),.p (.int .i64 a.cd),.p (.int .i64 a.cp),.p (.sl (CT a.CQ)),.p (.sl (DA a.CR)),.p (.sl (Dn a.closed)),.p (.sl (CT a.Dp)),.p (.sl (CT a.C0)),.p (.sl (Ed a.CO)),.p (.sl (DF a.CS)),.p (.bool a.C7),.ref 1000001 0 a.CX.length a.CX.length,.ref 1000002 0 a.CY.length a.CY.length,.ref 1000003 0 a.down.length a.down.length,.ref 1000004 0 a.up.length a.up.length,.ref 1000005 0 a.Hi.length a.Hi.length]),(1000001,.arr 118 4 (Ek a.CX)),(1000002,.arr 121 5 (ED a.CY)),(1000003,.arr 134 1 (Da a.down)),(1000004,.arr 134 1 (Da a.up)),(1000005,.arr 242 4 (FL a.Hi))]
attribute [go_sem] GI.h
def GI.h2(a:GI):Hp:=[(1000000,.box [.p (.sl (FM a.blocks)),.p (.sl (DA a.next)),.p (.sl (Gy a.CV)),.p (.sl (CT a.C8)),.p (.int .i64 a.cq),.p (.int .i64 a.ca),.p (.int .i64 a.cd),.p (.int .i64 a.cp),.p (.sl (CT a.CQ)),.p (.sl (DA a.CR)),.p (.sl (Dn a.closed)),.p (.sl (CT a.Dp)),.p (.sl (CT a.C0)),.p (.sl (Ed a.CO)),.p (.sl (DF a.CS)),.p (.bool a.C7),.p (.sl (Ek a.CX)),.ref 1000001 0 a.CY.length a.CY.length,.ref 1000002 0 a.down.length a.down.length,.ref 1000003 0 a.up.length a.up.length,.ref 1000004 0 a.Hi.length a.Hi.length]),(1000001,.arr 121 5 (ED a.CY)),(1000002,.arr 134 1 (Da a.down)),(1000003,.arr 134 1 (Da a.up)),(1000004,.arr 242 4 (FL a.Hi))]
attribute [go_sem] GI.h2
theorem Aeo(l)(n):(CT l).take n=CT (l.take n):=by simp[CT,CE]
theorem Zm:(∀(l:Aa) (i:Nat) (x:Int),(l.set i x).take l.length=l.set i x)/\(∀(l:Aa) (i j:Nat) (x y:Int),((l.set i x).set j y).take l.length=(l.set i x).set j y)/\(∀(l:Aa) (i j k:Nat) (x y z:Int),(((l.set i x).set j y).set k z).take l.length=((l.set i x).set j y).set k z)/\∀l:Aa,l.take l.length=l:=⟨λ l i x=>Bx AT,λ l i j x y=>Bx AT,λ l i j k x y z=>Bx AT,λ l=>BE⟩
theorem Bb1(l)(n):∀e∈(CT l).take n,e.length=1:=λ e h=>by have:=CA h;simp only[CT,BR] at this;obtain ⟨x,_,rfl⟩:=this;rfl
theorem Ej(l)(n):(Dn l).take n=Dn (l.take n):=by simp[Dn,CE]
theorem D0:(∀(l:Ad) (i:Nat) (x:Bool),(l.set i x).take l.length=l.set i x)/\(∀(l:Ad) (i j:Nat) (x y:Bool),((l.set i x).set j y).take l.length=(l.set i x).set j y)/\(∀(l:Ad) (i j k:Nat) (x y z:Bool),(((l.set i x).set j y).set k z).take l.length=((l.set i x).set j y).set k z)/\∀l:Ad,l.take l.length=l:=⟨λ l i x=>Bx AT,λ l i j x y=>Bx AT,λ l i j k x y z=>Bx AT,λ l=>BE⟩
theorem Zk(l)(n):∀e∈(Dn l).take n,e.length=1:=λ e h=>by have:=CA h;simp only[Dn,BR] at this;obtain ⟨x,_,rfl⟩:=this;rfl
theorem Ahy{α:Type}{l}{n:Nat}{i:Int}{x:α}(h:CU (l.take n) i=some x):CU l i=some x/\i<(n:Int):=by
 obtain ⟨a,h2⟩:=KH h;rw[BL] at h2;split at h2
 . refine ⟨?_,AQ⟩;unfold CU;rw[if_pos a.1];exact h2
 . cases h2
def dT(l:Ad):Ah:=l.map λ b=> .p (.bool b)
def dI(l:Aa):Ah:=l.map λ n=> .p (.int .i64 n)
theorem Hq(l):(dT l).length=l.length:=by simp[dT]
theorem Hr(l):(dI l).length=l.length:=by simp[dI]
theorem HF(l):Fe (dT l)=[]:=by
 induction l with
 | nil=>rfl
 | cons b r a=>simpa [dT,Fe,D.ids] using a
theorem FH(l):Fe (dI l)=[]:=by
 induction l with
 | nil=>rfl
 | cons b r a=>simpa [dI,Fe,D.ids] using a
theorem Bpl(l)(i:Nat):(dT l)[i]?=(l[i]?).map λ b=> .p (.bool b):=by simp[dT]
theorem Bpn(l)(i:Nat):(dI l)[i]?=(l[i]?).map λ b=> .p (.int .i64 b):=by simp[dI]
theorem Bd3{α:Type}(l:List α)(k)(x:α)(h:k<l.length):l.take k++[x]++l.drop (k+1)=l.set k x:=by
 rw[Cw,List.singleton_append,List.set_eq_take_append_cons_drop,if_pos h]
theorem Bpk{l}{k}{b}(h:k<l.length):(dT l).take k++[D.p (.bool b)]++(dT l).drop (k+1)=dT (l.set k b):=by
 rw[Bd3 _ _ _ (by rw[Hq];exact h)];simp[dT,BI]
theorem Bpm{l}{k}{b}(h:k<l.length):(dI l).take k++[D.p (.int .i64 b)]++(dI l).drop (k+1)=dI (l.set k b):=by
 rw[Bd3 _ _ _ (by rw[Hr];exact h)];simp[dI,BI]
def Adn{α:Type}(n:Nat)(l:List α)(i:Int):Option α:=if l.length=n then CU l i else none
theorem Ur{α:Type}{n}{l:List α}{i:Int}{x:α}(h:Adn n l i=some x):l.length=n/\(0<=i/\i<(n:Int))/\l[i.toNat]?=some x/\i.toNat<n:=by
 unfold Adn at h;split at h
 . rename_i e;obtain ⟨a,h2⟩:=KH h;rw[e] at a;exact ⟨e,a,h2,AQ⟩
 . cases h
theorem Bup:[D.p (.bool false),bD false,bD false,bD false,bD false,bD false,bD false,bD false,bD false,bD false,bD false,bD false,
   bD false,bD false,bD false,bD false,bD false,bD false,bD false,bD false,bD false,bD false,bD false,bD false]=dT (List.replicate 24 false):=rfl
def Ot(l:Ab):Ay:=l.map CT
theorem X4(l):(Ot l).length=l.length:=by simp[Ot]
theorem Bat(l)(i)(r):(Ot l).set i (CT r)=Ot (l.set i r):=by simp[Ot,BI]
theorem Avm(l):(Ot l).map (λ r=>[Pd.sl r])=DA l:=by simp[Ot,DA]
theorem Be2{rows}{i}{x}(h:CU rows i=some x):(Ot rows).getD i.toNat []=CT x:=by simp[Ot,List.getD,(KH h).2]
theorem Axl{rows}{i}{x}(h:CU rows i=some x):(Ot rows)[i.toNat]?.getD []=CT x:=by simp[Ot,(KH h).2]
theorem Axk{rows}{i}{x}(h:CU rows i=some x)(hx:i.toNat<(Ot rows).length):(Ot rows)[i.toNat]'hx=CT x:=by
 obtain ⟨a,h2⟩:=Bn.1 (KH h).2;simp[Ot,h2]
theorem Bk5{α:Type}{l}{i:Int}{x:α}(h:CU l i=some x):i.toNat<l.length:=(Bn.1 (KH h).2).1
theorem Atq(l)(n):(CT l).take n=CT (l.take n):=by simp[CT]
section
variable {P:AK} {st:St} {x:Code} {k:Kt}
theorem Am1{σ ε γ:Type}{step:σ->Option (σ⊕ε)}{g:σ}{e:ε}(m:C9 step g=some e)(S:σ->γ->St)(i:γ)(p:Wk st (S g i))
   (o:∀s c n,(step s).bind (GU (H4 step n))=some e->(∀a b st',H4 step n a=some e->Wk st' (S a b)->L P x k n st')->X P x (.lp x n k) (S s c)):X P (.loop x) k st:=by
 obtain ⟨n,l⟩:=Qm.1 m;have key:∀n s c,H4 step n s=some e->L P x k n (S s c):=by
   intro n
   induction n with
   | zero=>intro s c h;simp[H4] at h
   | succ n q=>intro s c h;exact ⟨S s c,Wk.refl _,o s c n h λ a b st' j f=>Bbv f (q a b j)⟩
 exact Aui _ (Bbv p (key n g i l))
end
attribute [go_sem] Hq Hr HF FH Bpl Bpn Bpk Bpm Nat.mul_one List.length_replicate
attribute [go_sem] X4 Bat Avm Bup
abbrev KM.c(a:KM):Ah:=[.p (.sl (CT a.CQ)),.p (.sl (DA a.CR))]
abbrev Nt.c(a:Nt):Ah:=[.p (.sl (FM a.blocks)),.p (.sl (DA a.next)),.p (.sl (Gy a.CV)),.p (.sl (CT a.C8)),.p (.int .i64 a.cq),.p (.int .i64 a.ca),.p (.int .i64 a.cd),.p (.int .i64 a.cp)]
abbrev Me.c(a:Me):Ah:=[.p (.sl (Dn a.closed)),.p (.sl (CT a.Dp)),.p (.sl (CT a.C0))]
abbrev Lo.c(a:Lo):Ah:=[.p (.sl (CT a.CQ)),.p (.sl (DA a.CR)),.p (.sl (Dn a.closed)),.p (.sl (CT a.Dp)),.p (.sl (CT a.C0)),.p (.sl (Ed a.CO)),.p (.sl (DF a.CS)),.p (.bool a.C7)]
abbrev Cm4.c(a:Cm4):Ah:=[.p (.int .i64 a.kind),.p (.str a.a),.p (.str a.b),.p (.int .i64 a.n)]
abbrev Ni.c(a:Ni):Ah:=[.p (.sl (Eu a.DV)),.p (.sl (FL a.CP)),.p (.sl (Hz a.FG)),.p (.sl (CT a.DO)),.p (.sl (CT a.DD))]
abbrev Ldg.c(a:Ldg):Ah:=[.p (.sl (Dn a.closed)),.p (.sl (CT a.Dp)),.p (.sl (CT a.C0)),.p (.sl (DF a.CS)),.p (.sl (Ed a.CO))]
abbrev KP.c(a:KP):Ah:=[.p (.int .i64 a.state),.p (.bool a.Fc),.p (.int .i64 a.Ev),.p (.int .i64 a.cell),.p (.int .i64 a.Ff),.p (.int .u64 a.seq),.p (.bool a.DH),.p (.bool a.LF),.p (.int .i64 a.DY),.p (.int .i64 a.Dx),.p (.sl (CT a.De)),.p (.int .i64 a.wait),.p (.int .i64 a.EI)]
abbrev Tsk.c(a:Tsk):Ah:=[.p (.int .i64 a.pick),.p (.int .i64 a.drop),.p (.int .i64 a.state),.p (.int .i64 a.CZ),.p (.int .i64 a.over)]
abbrev Su.c(a:Su):Ah:=[.p (.str a.name),.p (.bool a.Fw),.p (.int .i64 a.PK),.p (.int .i64 a.out),.p (.int .i64 a.Ei),.p (.int .i64 a.base)]
abbrev Blk.c(a:Blk):Ah:=[.p (.str a.name),.p (.int .i64 a.x),.p (.int .i64 a.y)]
abbrev O6.c(a:O6):Ah:=[.p (.int .i64 a.cell),.p (.int .i64 a.Ff),.p (.bool a.Qe),.p (.bool a.H5)]
abbrev U7.c(a:U7):Ah:=[.p (.int .i64 a.kind),.p (.int .i64 a.CZ),.p (.int .u64 a.seq),.p (.int .i64 a.cell),.p (.int .i64 a.flag)]
abbrev WR.c(a:WR):Ah:=[.p (.int .u64 a.last),.p (.int .i64 a.Ff),.p (.bool a.serve),.p (.int .i64 a.Ix),.p (.int .i64 a.cell)]
abbrev Dty.c(a:Dty):Ah:=[.p (.int .i64 a.CZ),.p (.int .i64 a.kind),.p (.int .i64 a.age)]
abbrev G9.c(a:G9):Ah:=[.p (.int .i64 a.kind),.p (.int .i64 a.a),.p (.int .i64 a.b),.p (.str a.text)]
abbrev OU.c(a:OU):Ah:=[.p (.int .i64 a.kind),.p (.int .i64 a.n)]
abbrev Ety.c(a:Ety):Ah:=[.p (.int .i64 a.at_),.p (.int .i64 a.kind),.p (.int .i64 a.a),.p (.int .i64 a.b)]
abbrev Gnt.c(a:Gnt):Ah:=[.p (.int .i64 a.CZ),.p (.int .i64 a.cell)]
abbrev Fnd.c(a:Fnd):Ah:=[.p (.int .i64 a.kind),.p (.int .i64 a.entry),.p (.int .i64 a.who)]
abbrev Lp(σ ε:Type):=σ->Option (σ⊕ε)
abbrev Rq(f:AH)(ds:Ah)(h H:Hp)(d0:D):Prop:=C4 prog f ds h λ h d=>h=H/\d=d0
theorem EA{f}{fn}{code}{args}{h}{R:Hp->D->Prop}(a:(prog).funcs[f]?=some fn)(Lf:Enters prog f)(e:X prog code (.fin fn.results.toList (h.map (·.1)) R) ⟨X2 0 args,h,fn.ntmps⟩)(hb:fn.body=some code:=by rfl)(b:Nat.ble args.length fn.ntmps=true:=by rfl):C4 prog f args h R:=Dw a hb Lf (Nat.le_of_ble_eq_true b) e
def pA:Nat->Aq->Al
 | _,[]=>[]
 | i,k::r=>(i,k)::pA (i+1) r
def pB:Aq->Al
 | []=>[]
 | k::r=>(k / 10,k % 10)::pB r
attribute [simp,go_sem] KM.c Nt.c Me.c Lo.c Cm4.c Ni.c Ldg.c KP.c Tsk.c Su.c Blk.c O6.c U7.c WR.c Dty.c G9.c OU.c Ety.c Gnt.c Fnd.c
theorem No:dI [0,0]=[iD 0,iD 0]:=rfl
theorem T4:dT [false,false,false,false,false,false,false,false]=[bD false,bD false,bD false,bD false,bD false,bD false,bD false,bD false]:=rfl
theorem GQ(n):List.take n (Dn (List.replicate n false))=Dn (List.replicate n false):=Bx (by simp[Dn])
attribute [go_sem] GQ
def V8(h:Hp):Aq->Hp
 | []=>[]
 | i::r=>match get h i with
   | some o=>(i,o)::V8 h r
   | none=>V8 h r
theorem Yx(h):∀l,KQ h (V8 h l)
 | []=>trivial
 | i::r=>by
   unfold V8;split
   . rename_i o a;exact ⟨a,Yx h r⟩
   . exact Yx h r
def Asj(h:Ar):Aq->Ar
 | []=>[]
 | i::r=>match get h i with
   | some o=>(i,o)::Asj h r
   | none=>Asj h r
attribute [go_sem] V8 Asj
theorem WL{st Lt}(h:Le st Lt:=by simp[ZF,ZE,ZEu,DX.h,GI.h,DX.h2,GI.h2,HF,FH,Hq,Hr,T4,No,Bv,BN,GQ, *]):Wk st Lt:=Wk.forget h
theorem AL{p q:Prop}{st Lt}(f:Wk st Lt->q)(e:p=q:=by (try simp only[go_sem, *])<;>rfl)(h:Le st Lt:=by simp[ZF,ZE,ZEu,DX.h,GI.h,DX.h2,GI.h2,HF,FH,Hq,Hr,T4,No,Bv,BN,GQ, *]):p:=Eq.mpr e (f (Wk.forget h))
theorem XP{x}{k:Kt}{st:St}{σ ε:Type}{step:σ->Option (σ⊕ε)}{b:σ}{e:ε}{S:σ->St}(f:C9 step b=some e)(I J:Aq)(E:σ->Ar)(H:σ->Hp)
   (g:∀s n,(step s).bind (GU (H4 step n))=some e->(∀a st',H4 step n a=some e->Wk st' (S a)->L prog x k n st')->X prog x (.lp x n k) (S s))
   (i:∀q,⟨Asj st.env I++E q,V8 st.hp J++H q,st.n⟩=S q:=by intro q;(try simp only[go_sem])<;>rfl) (h:Le st (S b):=by simp[ZF,ZE,ZEu,DX.h,GI.h,DX.h2,GI.h2,HF,FH,Hq,Hr,T4,No,Bv,BN,GQ, *]):X prog (.loop x) k st:=EX f S (Wk.forget h) g
theorem H2{a:Prop}{x}{k:Kt}{st:St}{σ ε:Type}{step:σ->Option (σ⊕ε)}{f:σ}{e:ε}{S:σ->St}(j:C9 step f=some e)(I J:Aq)(E:σ->Ar)(H:σ->Hp)
   (l:∀s n,(step s).bind (GU (H4 step n))=some e->(∀b st',H4 step n b=some e->Wk st' (S b)->L prog x k n st')->X prog x (.lp x n k) (S s))
   (g:a=(X prog (.loop x) k st):=by (try simp only[go_sem, *])<;>rfl) (i:∀q,⟨Asj st.env I++E q,V8 st.hp J++H q,st.n⟩=S q:=by intro q;(try simp only[go_sem])<;>rfl) (h:Le st (S f):=by simp[ZF,ZE,ZEu,DX.h,GI.h,DX.h2,GI.h2,HF,FH,Hq,Hr,T4,No,Bv,BN,GQ, *]):a:=Eq.mpr g (XP j I J E H l i h)
theorem A{p q:Prop}(h:q)(e:p=q:=by (try simp only[go_sem, *])<;>rfl):p:=Eq.mpr e h
theorem cE{α:Type}{c}{a b:Option α}{r:α}(h:cond c a b=some r):(c=false/\b=some r)∨(c=true/\a=some r):=by
 cases c
 . exact .inl ⟨rfl,h⟩
 . exact .inr ⟨rfl,h⟩
theorem cK{α β:Type}{c}{a b:Option α}{f:α->Option β}{r:β}(h:(cond c a b).bind f=some r):(c=false/\b.bind f=some r)∨(c=true/\a.bind f=some r):=by
 cases c
 . exact .inl ⟨rfl,h⟩
 . exact .inr ⟨rfl,h⟩
theorem Bu4{h0}{a}{d}{R:Hp->D->Prop}(h:Sj h0 a d R:=by (try simp only[go_sem, *])<;>first | done | rfl | exact ⟨rfl,rfl⟩ | simp):X3 h0 a d R:=DL h
theorem Bu2{h0}{a}{d}{R:Hp->D->Prop}(h:Sj h0 a d R:=by (try simp only[go_sem, *])<;>first | done | rfl | exact ⟨.inl rfl,rfl⟩ | exact ⟨.inr (.inl ⟨_,rfl⟩),rfl⟩ | exact ⟨.inr (.inr ⟨_,rfl⟩),rfl⟩ | exact ⟨rfl,rfl⟩ | simp):X3 h0 a d R:=DL h
theorem Bu3{h0}{a}{d}{R:Hp->D->Prop}(h:Ep h0 R (Er a d):=by (try simp only[go_sem, *])<;>first | done | rfl | exact ⟨rfl,rfl⟩ | simp):X3 h0 a d R:=Dt h
theorem eO{p:Prop}(h:p:=by (try simp only[go_sem, *])<;>exact Bu4):p:=h
theorem eP{p:Prop}(h:p:=by (try simp only[go_sem, *])<;>exact Bu3):p:=h
theorem eS{p:Prop}(h:p:=by (try simp only[go_sem, *])<;>exact Bu2):p:=h
theorem zO{α:Type}{v r:α}{p:Prop}(h:some v=some r)(a:v=r->p:=by intro h;subst h;(try simp only[go_sem, *])<;>exact Bu4):p:=a (Bf h)
theorem cO{α:Type}{c}{a b:Option α}{r:α}{p:Prop}(h:cond c a b=some r)(f:c=true->a=some r->p)(e:c=false->b=some r->p:=by intro _ h;cases h;exact eO):p:=(cE h).elim (λ h=>e h.1 h.2) λ h=>f h.1 h.2
theorem zP{α:Type}{v r:α}{p:Prop}(h:some v=some r)(a:v=r->p:=by intro h;subst h;(try simp only[go_sem, *])<;>exact Bu3):p:=a (Bf h)
theorem cP{α:Type}{c}{a b:Option α}{r:α}{p:Prop}(h:cond c a b=some r)(f:c=true->a=some r->p)(e:c=false->b=some r->p:=by intro _ h;cases h;exact eP):p:=(cE h).elim (λ h=>e h.1 h.2) λ h=>f h.1 h.2
theorem zS{α:Type}{v r:α}{p:Prop}(h:some v=some r)(a:v=r->p:=by intro h;subst h;(try simp only[go_sem, *])<;>exact Bu2):p:=a (Bf h)
theorem cS{α:Type}{c}{a b:Option α}{r:α}{p:Prop}(h:cond c a b=some r)(f:c=true->a=some r->p)(e:c=false->b=some r->p:=by intro _ h;cases h;exact eS):p:=(cE h).elim (λ h=>e h.1 h.2) λ h=>f h.1 h.2
theorem iE{α ε:Type}{l}{i:Int}{K:α->Option ε}{r:ε}(h:(CU l i).bind K=some r):∃x,K x=some r/\CU l i=some x/\0<=i/\i<(l.length:Int):=
 have ⟨x,g,h⟩:=bE h;⟨x,h,g,EK g⟩
theorem jE{α ε:Type}{E:List α->Ae}{F:α->Av}(a:∀{l:List α} {i:Int} {x:α},CU l i=some x->(E l).getD i.toNat []=F x){l}{i:Int}{K:α->Option ε}{r:ε}(h:(CU l i).bind K=some r):∃x,K x=some r/\CU l i=some x/\(0<=i/\i<(l.length:Int))/\(E l).getD i.toNat []=F x:=
 have ⟨x,g,h⟩:=bE h;⟨x,h,g,EK g,a g⟩
theorem iK{α ε:Type}{γ:Type}{k}{l:List α}{i:Int}{K:α->Option ε}{r:γ}(h:((CU l i).bind K).bind k=some r):∃x,(K x).bind k=some r/\CU l i=some x/\0<=i/\i<(l.length:Int):=
 have ⟨x,g,h⟩:=bK h;⟨x,h,g,EK g⟩
theorem jK{α ε:Type}{γ:Type}{k}{E:List α->Ae}{F:α->Av}(a:∀{l:List α} {i:Int} {x:α},CU l i=some x->(E l).getD i.toNat []=F x){l:List α}{i:Int}{K:α->Option ε}{r:γ}(h:((CU l i).bind K).bind k=some r):∃x,(K x).bind k=some r/\CU l i=some x/\(0<=i/\i<(l.length:Int))/\(E l).getD i.toNat []=F x:=
 have ⟨x,g,h⟩:=bK h;⟨x,h,g,EK g,a g⟩
theorem sl{α:Type}{i}{l:List α}{n}(h:0<=i/\i<(l.length:Int))(e:l.length=n:=by (try simp only[Bv])<;>rfl):0<=i/\i<(n:Int):=e ▸ h
theorem YA{P}{s}{ops rest}{k}{dst}{st}{h}{T}{f}{ds}{b}{S:Prop}{H}{a}(e:C4 P f ds b λ h d=>h=H/\d=a)
   (g:fresh (dst.getD 0) h H/\O P s ops rest k (({st with hp:=merge T (dst.getD 0) h H}:St).put dst (a.GB (back T (dst.getD 0))))):Cc P s ops rest k dst st h T f ds b S:=GJ e (by rintro i r ⟨rfl,rfl⟩;exact g)
theorem Ec{l P s ops rest k dst st h T f ds j S a}{β ε:Type}{x}{K:β->Option ε}{i:ε}{H:β->Hp}{b:β->D}(p:x.bind K=some i)(n:∀{v},x=some v->C4 P f ds a λ h d=>h=H v/\d=b v)
   (o:∀v,K v=some i->fresh (dst.getD 0) h (H v)/\O P s ops rest k (({st with hp:=merge T (dst.getD 0) h (H v)}:St).put dst ((b v).GB (back T (dst.getD 0))))) (m:l=Cc P s ops rest k dst st h T f ds j S:=by (try simp only[go_sem, *])<;>rfl) (e:a=j:=by first | with_reducible rfl | (simp only[DX.h,DX.h2,GI.h,GI.h2,Bv];done) | rfl):l:=
 have ⟨v,g,h⟩:=bE p;Eq.mpr m (YA (e ▸ n g) (o v h))
theorem Fy{l P s ops rest k dst st h T f ds j S a}{β ε γ:Type}{x}{K:β->Option ε}{k':ε->Option γ}{i:γ}{H:β->Hp}{b:β->D}(p:(x.bind K).bind k'=some i)(n:∀{v},x=some v->C4 P f ds a λ h d=>h=H v/\d=b v)
   (o:∀v,(K v).bind k'=some i->fresh (dst.getD 0) h (H v)/\O P s ops rest k (({st with hp:=merge T (dst.getD 0) h (H v)}:St).put dst ((b v).GB (back T (dst.getD 0))))) (m:l=Cc P s ops rest k dst st h T f ds j S:=by (try simp only[go_sem, *])<;>rfl) (e:a=j:=by first | with_reducible rfl | (simp only[DX.h,DX.h2,GI.h,GI.h2,Bv];done) | rfl):l:=
 have ⟨v,g,h⟩:=bK p;Eq.mpr m (YA (e ▸ n g) (o v h))
theorem GhD{P}{l}{hR}{r}{k}{e}{dst}{st}{h}{T}{f}{ds}{b}{S:Prop}{H}{a}(g:C4 P f ds b λ h d=>h=H/\d=a)
   (i:fresh (dst.getD 0) h H/\Hd e (merge T (dst.getD 0) h H) hR/\G P l hR r k (({st with hp:=merge T (dst.getD 0) h H}:St).put dst (a.GB (back T (dst.getD 0))))):Gh P l hR r k e dst st h T f ds b S:=Aw1 g (by rintro j r ⟨rfl,rfl⟩;exact i)
theorem FO{n P l hR r k m dst st h T f ds j S a}{β ε:Type}{x}{K:β->Option ε}{i:ε}{H:β->Hp}{b:β->D}(s:x.bind K=some i)(p:∀{v},x=some v->C4 P f ds a λ h d=>h=H v/\d=b v)
   (q:∀v,K v=some i->fresh (dst.getD 0) h (H v)/\Hd m (merge T (dst.getD 0) h (H v)) hR/\G P l hR r k (({st with hp:=merge T (dst.getD 0) h (H v)}:St).put dst ((b v).GB (back T (dst.getD 0))))) (o:n=Gh P l hR r k m dst st h T f ds j S:=by (try simp only[go_sem, *])<;>rfl) (e:a=j:=by first | with_reducible rfl | (simp only[DX.h,DX.h2,GI.h,GI.h2,Bv];done) | rfl):n:=
 have ⟨v,g,h⟩:=bE s;Eq.mpr o (GhD (e ▸ p g) (q v h))
theorem Sc{n P l hR r k m dst st h T f ds j S a}{β ε γ:Type}{x}{K:β->Option ε}{k':ε->Option γ}{i:γ}{H:β->Hp}{b:β->D}(s:(x.bind K).bind k'=some i)(p:∀{v},x=some v->C4 P f ds a λ h d=>h=H v/\d=b v)
   (q:∀v,(K v).bind k'=some i->fresh (dst.getD 0) h (H v)/\Hd m (merge T (dst.getD 0) h (H v)) hR/\G P l hR r k (({st with hp:=merge T (dst.getD 0) h (H v)}:St).put dst ((b v).GB (back T (dst.getD 0))))) (o:n=Gh P l hR r k m dst st h T f ds j S:=by (try simp only[go_sem, *])<;>rfl) (e:a=j:=by first | with_reducible rfl | (simp only[DX.h,DX.h2,GI.h,GI.h2,Bv];done) | rfl):n:=
 have ⟨v,g,h⟩:=bK s;Eq.mpr o (GhD (e ▸ p g) (q v h))
theorem An{t p q:Prop}[Decidable t](c:decide t=true)(b:q)(a:t->p:=by intro this;(try simp only[Br,Bz,Bw] at*);(repeat' refine And.intro ?_ ?_)<;>first | exact Lr _ _ rfl | omega | exact J7 _ | exact Apg _ | exact Ail _ | exact Aix _ | exact QM _ | exact Aiy _ | exact s5 _ | exact Jn _ | exact Aj2 _ | exact Aj4 _ | exact TH _ | exact Ait _ | exact Apn _ | exact Aiz _ | exact Aj3 _ | (simp[P0];done)):p/\q:=⟨a (Bg c),b⟩
theorem He{a:Prop}{t p q:Prop}[Decidable t](c:decide t=true)(f:q)(b:a=(p/\q):=by (try simp only[go_sem, *])<;>rfl)(e:t->p:=by intro this;(try simp only[Br,Bz,Bw] at*);(repeat' refine And.intro ?_ ?_)<;>first | exact Lr _ _ rfl | omega | exact J7 _ | exact Apg _ | exact Ail _ | exact Aix _ | exact QM _ | exact Aiy _ | exact s5 _ | exact Jn _ | exact Aj2 _ | exact Aj4 _ | exact TH _ | exact Ait _ | exact Apn _ | exact Aiz _ | exact Aj3 _ | (simp[P0];done)):a:=Eq.mpr b (An c f e)
theorem Am2{l}{id}{k}{st}(ids c){p}(h:G prog l (V8 st.hp ids) p k st)(hp:pA 0 c=p:=by simp only[pA,Nat.reduceAdd]<;>rfl)(a:R5 l p=true:=by kernel_rfl):X prog (.region id l.toArray true) k st:=Yu (V8 st.hp ids) mixed a (Yx _ _) h
theorem C5{a:Prop}{l}{id}{k}{st}(ids c){p}(h:G prog l (V8 st.hp ids) p k st)(b:a=(X prog (.region id l.toArray true) k st):=by (try simp only[go_sem, *])<;>rfl)(hp:pA 0 c=p:=by simp only[pA,Nat.reduceAdd]<;>rfl)(e:R5 l p=true:=by kernel_rfl):a:=Eq.mpr b (Am2 ids c h hp e)
theorem Bih{l}{id}{k}{st}(ids c){p}(h:G prog l (V8 st.hp ids) p k st)(hp:pB c=p:=by simp only[pB,Nat.reduceDiv,Nat.reduceMod]<;>rfl)(a:R5 l p=true:=by kernel_rfl):X prog (.region id l.toArray true) k st:=Yu (V8 st.hp ids) mixed a (Yx _ _) h
theorem Ey{a:Prop}{l}{id}{k}{st}(ids c){p}(h:G prog l (V8 st.hp ids) p k st)(b:a=(X prog (.region id l.toArray true) k st):=by (try simp only[go_sem, *])<;>rfl)(hp:pB c=p:=by simp only[pB,Nat.reduceDiv,Nat.reduceMod]<;>rfl)(e:R5 l p=true:=by kernel_rfl):a:=Eq.mpr b (Bih ids c h hp e)
theorem Auj{l}{id}{k}{st}(c){p}(h:G prog l st.hp p k st)(hp:pA 0 c=p:=by simp only[pA,Nat.reduceAdd]<;>rfl)(a:R5 l p=true:=by kernel_rfl)(hle:KQ st.hp st.hp:=by simp[KQ,get]):X prog (.region id l.toArray true) k st:=PW mixed a hle h
theorem Dd{a:Prop}{l}{id}{k}{st}(c){p}(h:G prog l st.hp p k st)(b:a=(X prog (.region id l.toArray true) k st):=by (try simp only[go_sem, *])<;>rfl)(hp:pA 0 c=p:=by simp only[pA,Nat.reduceAdd]<;>rfl)(e:R5 l p=true:=by kernel_rfl)(hle:KQ st.hp st.hp:=by simp[KQ,get]):a:=Eq.mpr b (Auj c h hp e hle)
theorem Big{l}{id}{k}{st}(c){p}(h:G prog l st.hp p k st)(hp:pB c=p:=by simp only[pB,Nat.reduceDiv,Nat.reduceMod]<;>rfl)(a:R5 l p=true:=by kernel_rfl)(hle:KQ st.hp st.hp:=by simp[KQ,get]):X prog (.region id l.toArray true) k st:=PW mixed a hle h
theorem Hx{a:Prop}{l}{id}{k}{st}(c){p}(h:G prog l st.hp p k st)(b:a=(X prog (.region id l.toArray true) k st):=by (try simp only[go_sem, *])<;>rfl)(hp:pB c=p:=by simp only[pB,Nat.reduceDiv,Nat.reduceMod]<;>rfl)(e:R5 l p=true:=by kernel_rfl)(hle:KQ st.hp st.hp:=by simp[KQ,get]):a:=Eq.mpr b (Big c h hp e hle)
theorem kI{σ ε:Type}{F}{s}{e}(h:(some (Sum.inl s):Option (σ⊕ε)).bind (GU F)=some e):F s=some e:=h
theorem kR{σ ε:Type}{F}{s e}(h:(some (Sum.inr s):Option (σ⊕ε)).bind (GU F)=some e):s=e:=Bf h
theorem CcB{P}{ops rest}{k}{dst}{st st'}{h}{T}{e}{ds YG}{n}{o}{b}{args}{g}{cap}{H}{a}
   (i:C4 P g ds [] λ h d=>h=H/\d=a) (l:O P true ops rest k (st.put o.dst a)) (m:EB o.op=some (b,args):=by rfl) (j:ev st b= .fn g cap:=by rfl)
   (hb:OQ st.hp (args.map (ev st)++cap) ds:=by simp[OQ,Bor,ev,get,Bx,ZB,ZBu,DX.h,GI.h,DX.h2,GI.h2]<;>rfl) (f:H=[]:=by rfl) (h2:a.flat=true:=by rfl):Cc P true ops rest k dst st' h T e YG n (Sm P true ops rest k o st):=Bqn m j i hb (by rintro p r ⟨rfl,rfl⟩;exact ⟨f,h2,l⟩)
theorem GhB{P}{l}{hR}{r}{k}{b}{dst}{st st'}{h}{T}{f}{ds YG}{q}{o}{e}{args}{g}{cap}{H}{a}
   (j:C4 P g ds [] λ h d=>h=H/\d=a) (n:Hd b st.hp hR/\G P l hR r k (st.put o.dst a)) (p:EB o.op=some (e,args):=by rfl) (m:ev st e= .fn g cap:=by rfl)
   (hb:OQ st.hp (args.map (ev st)++cap) ds:=by simp[OQ,Bor,ev,get,Bx,ZB,ZBu,DX.h,GI.h,DX.h2,GI.h2]<;>rfl) (i:H=[]:=by rfl) (h2:a.flat=true:=by rfl):Gh P l hR r k b dst st' h T f YG q (Bq P l hR r k b o st):=Bqb p m j hb (by rintro s r ⟨rfl,rfl⟩;exact ⟨i,h2,n⟩)
def Um(a:Ab)(b:Ad)(x:Int):Aa×Ad×Int->Option ((Aa×Ad×Int)⊕(Aa×Ad×Int))
 | (t,o,i)=>Option.bind (CU a x) λ row=>cond (decide (i<((row.length:Nat):Int))) (Option.bind (CU row i) λ y=>Option.bind (CU b y) λ s=>cond s (some (Sum.inl (t,o,i64.wrap (i+1))))
     (Option.bind (CU o y) λ m=>cond m (some (Sum.inl (t,o,i64.wrap (i+1)))) (cond (decide (t.length<1000)) (some (Sum.inl (t++[y],o.set y.toNat true,i64.wrap (i+1)))) none))) (some (Sum.inr (t,o,i)))
def YY(a:Ab)(b:Ad):Aa×Ad->Option ((Aa×Ad)⊕Ad)
 | ([],o)=>some (Sum.inr o)
 | (x::t,o)=>Option.bind (C9 (Um a b x) (t,o,0)) λ (t',o',i')=>some (Sum.inl (t',o'))
theorem Ag4(a0)(a1)(o):YY a0 a1 ([],o)=some (Sum.inr o):=rfl
theorem Acx(a0)(a1)(x)(t)(o):YY a0 a1 (x::t,o)=Option.bind (C9 (Um a0 a1 x) (t,o,0)) λ (t',o',i')=>some (Sum.inl (t',o')):=rfl
def MG(a:Ab)(e:Ad)(b:Int):Option Ad:=
 cond (decide (a.length<1000)) (Option.bind (CU e b) λ s=>cond s (some (List.replicate a.length false)) (Option.bind (CU (List.replicate a.length false) b) λ m=>C9 (YY a e) ([b],(List.replicate a.length false).set b.toNat true))) none
def qSo(a:Ab)(b:Ad)(q:Aa×Ad)(p:Aa):St:=
 ⟨[(0,.p (.sl (DA a))),(1,.p (.sl (Dn b))),(7,.ref 14 0 q.2.length q.2.length),(8,.ref 24 p.length q.1.length (p++q.1).length)],[(14,.arr 4 1 (Dn q.2)),(24,.arr 3 1 (CT (p++q.1)))],69⟩
def qSi(a:Ab)(b:Ad)(x:Int)(q:Aa×Ad×Int)(p:Aa):St:=
 ⟨[(0,.p (.sl (DA a))),(1,.p (.sl (Dn b))),(7,.ref 14 0 q.2.1.length q.2.1.length),(8,.ref 24 p.length q.1.length (p++q.1).length),(9,.p (.int .i64 x)),(10,.p (.int .i64 q.2.2))],[(14,.arr 4 1 (Dn q.2.1)),(24,.arr 3 1 (CT (p++q.1)))],69⟩
theorem Rk(a0)(a1)(a2)(r)(i:MG a0 a1 a2=some r):
   C4 prog 203 [sD (DA a0),sD (Dn a1),iD a2] [] λ h d=>h=[]/\d=sD (Dn r):=by
 unfold MG at i;cases V:decide (a0.length<1000)
 . simp only[V,Bl,reduceCtorEq] at i
 simp only[V,Bm] at i;have a3:=Bg V;have b0:0<=((a0.length:Nat):Int):=AQ;have b1:((a0.length:Nat):Int)<=140737488355328:=AQ;have b2:((a0.length:Nat):Int)*1<=140737488355328:=AQ;have b3:((a0.length:Nat):Int)<=((a0.length:Nat):Int):=Int.le_refl _;rcases N:CU a1 a2 with _ | s
 . simp only[N,Option.bind_none,reduceCtorEq] at i
 simp only[N,Bd] at i;have f1:=EK N;have f2:(Dn a1).getD a2.toNat []=[.bool s]:=D1 _ N;refine Dw func203 rfl Aye (by simp[Tryz.f203]) ?_;cases s;rotate_left
 . simp only[Bm] at i;cases i;have tk:List.take a0.length (Dn (List.replicate a0.length false))=Dn (List.replicate a0.length false):=by rw[Bx];simp[Dn]
   simp only[go_sem,b0,b1,b2,b3,f1,f2];refine Dt ?_;simp only[go_sem,tk]
 simp only[Bl] at i;rcases Q:CU (List.replicate a0.length false) a2 with _ | m
 . simp only[Q,Option.bind_none,reduceCtorEq] at i
 simp only[Q,Bd] at i;have f3:=EK Q;rw[B1] at f3;have f4:(Dn (List.replicate a0.length false)).getD a2.toNat []=[.bool m]:=D1 _ Q;simp only[go_sem,b0,b1,b2,b3,f1,f2,f3,f4];refine Am1 i (qSo a0 a1) [] (Wk.forget (by simp[ZF,qSo,Aen,FX])) ?_;rintro ⟨t,o⟩ p m1 w ih;unfold qSo;rcases t with _ | ⟨x,t⟩
 . rw[Ag4] at w;simp only[Bd,Ahs] at w;cases w;simp only[go_sem];refine Dt ?_;simp only[go_sem]
 . rw[Acx] at w;rcases g3:C9 (Um a0 a1 x) (t,o,0) with _ | ⟨t',o',i'⟩
   . simp only[g3,Option.bind_none,reduceCtorEq] at w
   simp only[g3,Bd,Uq] at w;have l1:(0:Int)<((t.length+1:Nat):Int):=AQ;have l2:(1:Int)<=((t.length+1:Nat):Int):=AQ;have l3:(CT (p++x::t)).getD p.length []=[.int .i64 x]:=by simp[CT,List.getD]
   have l4:(((t.length+1:Nat):Int) - 1).toNat=t.length:=AQ;simp only[go_sem,l1,l2,l3,l4,B8,Int.le_refl];refine Am1 g3 (qSi a0 a1 x) (p++[x]) (Wk.forget (by simp[ZF,qSi,Cw,Bw])) ?_;rintro ⟨a,g,j⟩ f m2 Tv Wi;unfold qSi;rw[Um.eq_1] at Tv;rcases R:CU a0 x with _ | row
   . simp only[R,Option.bind_none,reduceCtorEq] at Tv
   simp only[R,Bd] at Tv;have B:=EK R;have E:(DA a0).getD x.toNat []=[.sl (CT row)]:=D1 _ R;cases u:decide (j<((row.length:Nat):Int))
   . simp only[u,Bl] at Tv;simp only[Bd,Ahs] at Tv;obtain ⟨rfl,rfl,rfl⟩:a=t'/\g=o'/\j=i':=by simpa using Tv
     simp only[go_sem,B,E,u];exact ih (a,g) f _ w (Wk.forget (by simp[ZF,qSo]))
   simp only[u,Bm] at Tv;rcases S:CU row j with _ | y
   . simp only[S,Option.bind_none,reduceCtorEq] at Tv
   simp only[S,Bd] at Tv;have H:=EK S;have I:(CT row).getD j.toNat []=[.int .i64 y]:=D1 _ S;rcases T:CU a1 y with _ | sy
   . simp only[T,Option.bind_none,reduceCtorEq] at Tv
   simp only[T,Bd] at Tv;have K:=EK T;have l:(Dn a1).getD y.toNat []=[.bool sy]:=D1 _ T;cases sy;rotate_left
   . simp only[Bm] at Tv;simp only[Bd,Uq] at Tv;simp only[go_sem,B,E,u,H,I,K,l];exact Wi (a,g,i64.wrap (j+1)) f _ Tv (Wk.forget (by simp[ZF,qSi]))
   simp only[Bl] at Tv;rcases U:CU g y with _ | my
   . simp only[U,Option.bind_none,reduceCtorEq] at Tv
   simp only[U,Bd] at Tv;have v:=EK U;have n:(Dn g).getD y.toNat []=[.bool my]:=D1 _ U;cases my;rotate_left
   . simp only[Bm] at Tv;simp only[Bd,Uq] at Tv;simp only[go_sem,B,E,u,H,I,K,l,v,n];exact Wi (a,g,i64.wrap (j+1)) f _ Tv (Wk.forget (by simp[ZF,qSi]))
   simp only[Bl] at Tv;cases W:decide (a.length<1000)
   . simp only[W,Bl,Option.bind_none,reduceCtorEq] at Tv
   simp only[W,Bm] at Tv;simp only[Bd,Uq] at Tv;have a4:=Bg W;have a5:(Dn g)[y.toNat]?.getD []=[.bool false]:=n;rcases f with _ | ⟨z,f⟩
   . simp only[go_sem,B,E,u,H,I,K,l,v,n];exact ⟨⟨Lr _ _ rfl,AQ,AQ⟩,Wi (a++[y],g.set y.toNat true,i64.wrap (j+1)) [] _ Tv (Wk.forget (by simp[ZF,qSi]))⟩
   . simp only[go_sem,B,E,u,H,I,K,l,v,n];refine Blp rfl rfl rfl rfl rfl ?_;have e1:(f.length+1)+a.length=(f++a).length+1:=AW;have e2:(CT (z::(f++a))).drop (f.length+1)=CT a:=by simp[CT]
     have e3:(f++a).length+1=(CT (z::(f++a))).length:=by simp[CT]
     simp only[Avx,Bo1,ti3,ev,get,Sh,Dq];simp;refine ⟨rfl,by rw[<-e3];simp;omega,by rw[<-e3];simp;try omega,AQ,AQ,?_,?_⟩
     . have Y:CT (z::(f++a))++[[.int .i64 y]]=CT ((z::f)++(a++[y])):=by simp[CT]
       have Z:(CT (z::(f++a))).length+1=((z::f)++(a++[y])).length:=by simp only[C1,Br,Bw,Bz];omega
       simp only[go_sem,Y,Z];exact Wi (a++[y],g.set y.toNat true,i64.wrap (j+1)) (z::f) _ Tv (Wk.forget (by simp[ZF,qSi,Nat.add_assoc]))
     . have Y:CT a++[[.int .i64 y]]=CT (a++[y]):=by simp[CT]
       have Z:(CT a).length+1=(a++[y]).length:=by simp[CT]
       simp only[go_sem,e2,Y,Z];refine Wi (a++[y],g.set y.toNat true,i64.wrap (j+1)) [] _ Tv ?_;refine Wk.trans (b:=⟨[(0,.p (.sl (DA a0))),(1,.p (.sl (Dn a1))),(7,.ref 14 0 g.length g.length),(8,.ref 67 0 (a++[y]).length (CT (a++[y])).length),(9,.p (.int .i64 x)),(10,.p (.int .i64 (i64.wrap (j+1))))],[(14,.arr 4 1 (Dn (g.set y.toNat true))),(67,.arr 3 1 (CT (a++[y])))],69⟩) (Wk.forget (by simp[ZF,C1])) ?_;refine (Wk.Ao4 (t:=8) (q:=67) (k:=(a++[y]).length) (sz:=1) (e:=3) (es:=CT (a++[y])) 24 rfl rfl (by simp[CT]) rfl).trans ?_;have e6:List.take (a.length+1) (a++[y])=a++[y]:=by rw[Bx];simp
       exact (Wk.forget (by simp[ZF,qSi,Atq,BE,e6]))
def Q7(e:Me)(f:Int):Aa×Int->Option ((Aa×Int)⊕((Aa×Int)))
 | (b,a)=>cond (a<(e.C0.length:Int)) ((CU e.C0 a).bind λ Lq=>cond (Lq=f) (some (.inl (b,(i64.wrap (a+1))))) (cond (b.length+1<10000000) (some (.inl ((b++[Lq]),(i64.wrap (a+1))))) none)) (some (.inr (b,a)))
def Jz(a:Me)(b:Int):Option (Me):=
 cond (a.closed.length<10000000) (cond (a.Dp.length<10000000) ((C9 (Q7 a b) ([],0)).bind (λ (M7,v20)=>some (⟨a.closed,a.Dp,M7⟩:Me))) none) none
theorem K7{b f r}(a:Jz b f=some r):
   Rq 118 [.agg b.c,iD f] [] [(0,.arr 4 1 (Dn r.closed)),(1,.arr 3 1 (CT r.Dp)),(2,.arr 3 1 (CT r.C0))] (.agg [rD 0 r.closed,rD 1 r.Dp,rD 2 r.C0]):=by
 refine EA func118 Bae ?_;unfold Jz at a;refine Ey [2] [0,10,30,40,71,22,52,60,83] ?_;obtain ⟨k,a⟩:=gE a;refine He k ?_;obtain ⟨l,a⟩:=gE a;refine He l ?_;obtain ⟨m,i,a⟩:=bE a;refine A ?_;refine EX i (λ q=>⟨[(1,iD f),(2,.ptr 2 0),(4,.ptr 4 0),(5,.ptr 5 0),(6,iD q.2)],[(2,.box b.c),(4,.box [.cl [],.cl [],.cl []]),(5,.box [rD 9 b.closed,rD 12 b.Dp,rD 36 q.1]),(9,.arr 4 1 (Dn b.closed)),(12,.arr 3 1 (CT b.Dp)),(36,.arr 3 1 (CT q.1))],39⟩) ((Wk.EV (id:=5) (j:=2) (q:=36) (sz:=1) 3 rfl rfl rfl AV).trans WL) ?_;rintro ⟨n,o⟩ _ Ip e;rw[Q7.eq_1] at Ip;obtain ⟨_,Ip⟩ | ⟨_,Ip⟩:=cK Ip
 . cases kR Ip;exact zO a
 obtain ⟨_,Ip,_⟩:=jK Dl Ip;obtain ⟨_,Ip⟩ | ⟨_,Ip⟩:=cK Ip
 . refine C5 [2,5] [0,0,0,0,0,0,0,1,2,0,3] ?_;obtain ⟨g,Ip⟩:=gK Ip;refine He g ?_;exact AL (e _ _ (kI Ip))
 exact AL (e _ _ (kI Ip))
def Kh(e:Me)(b:Int)(f:Int):Option (Me):=
 (Jz e b).bind λ a=>(CU a.closed b).bind λ g=>cond g (some a) ((CU a.Dp b).bind λ i=>some (⟨(a.closed.set b.toNat true),(a.Dp.set b.toNat f),a.C0⟩:Me))
theorem Q5{b e f r}(a:Kh b e f=some r):
   Rq 139 [.agg b.c,iD e,iD f] [] [] (.agg r.c):=by
 refine EA func139 Azu ?_;unfold Kh at a;refine Ec a K7 λ _ a=>?_;obtain ⟨_,a,_⟩:=jE DZ a;obtain ⟨_,a⟩ | ⟨_,a⟩:=cE a
 . refine C5 [3,20009] [0,0,0,0,0,0,0,2,2,0,3] ?_;obtain ⟨_,a,_⟩:=jE Dl a;exact zP a
 exact zP a
def N0(e:Me)(a:Int):Option (Me):=
 (Jz e a).bind λ b=>(CU b.closed a).bind λ f=>(CU b.Dp a).bind λ g=>some (⟨(b.closed.set a.toNat false),(b.Dp.set a.toNat (-1)),b.C0⟩:Me)
theorem Ak3{b e r}(a:N0 b e=some r):
   Rq 205 [.agg b.c,iD e] [] [] (.agg r.c):=by
 refine EA func205 Ayc ?_;unfold N0 at a;refine Ec a K7 λ _ a=>?_;refine C5 [2,20007] [0,0,0,0,0,0,2,2,0,3] ?_;obtain ⟨_,a,_⟩:=jE DZ a;obtain ⟨_,a,_⟩:=jE Dl a;exact zP a
def ZV(e:Me):Ad×Int->Option ((Ad×Int)⊕((Ad×Int)))
 | (b,a)=>cond (a<(e.C0.length:Int)) ((CU e.C0 a).bind λ Ju=>(CU b Ju).bind λ Jt=>some (.inl ((b.set Ju.toNat true),(i64.wrap (a+1))))) (some (.inr (b,a)))
def E0(a:Me):Option Ad:=
 cond (a.closed.length<10000000) ((C9 (ZV a) (a.closed,0)).bind (λ (v20,v21)=>some v20)) none
theorem FN{f r}(a:E0 f=some r):
   Rq 163 [.agg f.c] [] [(0,.arr 4 1 (Dn r))] (rD 0 r):=by
 refine EA func163 Azd ?_;unfold E0 at a;obtain ⟨g,a⟩:=gE a;refine He g ?_;obtain ⟨i,b,a⟩:=bE a;refine H2 b [1] [1] (λ q=>[(3,rD 7 q.1),(4,iD q.2)]) (λ q=>[(7,.arr 4 1 (Dn q.1))]) ?_;rintro ⟨j,k⟩ _ Hw e;rw[ZV.eq_1] at Hw;obtain ⟨_,Hw⟩ | ⟨_,Hw⟩:=cK Hw
 . cases kR Hw;exact zO a
 obtain ⟨_,Hw,_⟩:=jK Dl Hw;obtain ⟨_,Hw,_⟩:=jK DZ Hw;exact AL (e _ _ (kI Hw))
def ZS(b:Nt)(g:Me)(j:Ad)(i:Int)(Jt:Ad):Bool×Int×Bool->Option ((Bool×Int×Bool)⊕((Bool×Int×Bool)))
 | (a,Mx,O8)=>cond (Mx<(b.blocks.length:Int)) ((CU j Mx).bind λ WS=>cond WS (some (.inl (a,(i64.wrap (Mx+1)),O8))) (cond O8 (cond a (some (.inl (true,(i64.wrap (Mx+1)),true))) ((MG b.next (g.closed.take b.blocks.length) Mx).bind λ e=>(CU e i).bind λ f=>some (.inl (f,(i64.wrap (Mx+1)),true)))) ((CU Jt Mx).bind λ Mu=>cond a (some (.inl (true,(i64.wrap (Mx+1)),Mu))) ((MG b.next (g.closed.take b.blocks.length) Mx).bind λ NF=>(CU NF i).bind λ Va=>some (.inl (Va,(i64.wrap (Mx+1)),Mu)))))) (some (.inr (a,Mx,O8)))
def ZR(e:Nt)(f:Me)(g:Ad):Ad×Int->Option ((Ad×Int)⊕((Ad×Int)))
 | (b,a)=>cond (a<(e.blocks.length:Int)) ((MG e.next (f.closed.take e.blocks.length) a).bind λ Jt=>(C9 (ZS e f g a Jt) (false,0,false)).bind (λ (YO,v64,ZI)=>cond ZI ((CU b a).bind λ i=>some (.inl ((b.set a.toNat YO),(i64.wrap (a+1))))) ((CU b a).bind λ RU=>some (.inl ((b.set a.toNat false),(i64.wrap (a+1))))))) (some (.inr (b,a)))
def LN(a:Nt)(b:Me):Option Ad:=
 cond (0<=0/\0<=(a.blocks.length:Int)/\(a.blocks.length:Int)<=(b.closed.length:Int)) ((E0 b).bind λ e=>cond (a.blocks.length<10000000) ((C9 (ZR a b e) ((List.replicate a.blocks.length false),0)).bind (λ (v75,v76)=>some v75)) none) none
theorem Xf{b e r}(a:LN b e=some r):
   Rq 225 [.agg b.c,.agg e.c] [] [] (sD (Dn r)):=by
 refine EA func225 Ay0 ?_;unfold LN at a;refine Hx [0,20,30,40,50,60,70,12,80,90] ?_;obtain ⟨l,a⟩:=gE a;have _:=Bg l;try simp only[go_sem, *,Jn e.closed]
 refine FO a FN λ _ a=>?_;obtain ⟨m,a⟩:=gE a;refine He m ?_;obtain ⟨n,f,a⟩:=bE a;refine H2 f [2,5,6] [2,10014] (λ q=>[(7,rD 24 q.1),(8,iD q.2)]) (λ q=>[(24,.arr 4 1 (Dn q.1))]) ?_;rintro ⟨t,s⟩ _ EM Agd;rw[ZR.eq_1] at EM;obtain ⟨_,EM⟩ | ⟨_,EM⟩:=cK EM
 . cases kR EM;exact zP a
 obtain ⟨_,g,EM⟩:=bK EM;refine A ?_;refine YA (Rk b.next (e.closed.take b.blocks.length) s _ g) ?_;obtain ⟨o,i,EM⟩:=bK EM;refine H2 i [2,5,6,7,8,11] [2,24,10014] (λ q=>[(9,bD q.2.2),(10,bD q.1),(12,iD q.2.1)]) (λ _=>[]) ?_;rintro ⟨p,Mx,O8⟩ _ HD At1;rw[ZS.eq_1] at HD;obtain ⟨_,HD⟩ | ⟨_,HD⟩:=cK HD
 . cases kR HD;obtain ⟨_,EM⟩ | ⟨_,EM⟩:=cK EM
   . obtain ⟨_,EM,_⟩:=jK DZ EM;exact AL (Agd _ _ (kI EM))
   obtain ⟨_,EM,_⟩:=jK DZ EM;exact AL (Agd _ _ (kI EM))
 obtain ⟨_,HD,_⟩:=jK DZ HD;obtain ⟨_,HD⟩ | ⟨_,HD⟩:=cK HD
 . obtain ⟨_,HD⟩ | ⟨_,HD⟩:=cK HD
   . obtain ⟨_,HD,_⟩:=jK DZ HD;obtain ⟨_,HD⟩ | ⟨_,HD⟩:=cK HD
     . obtain ⟨_,j,HD⟩:=bK HD;refine A ?_;refine YA (Rk b.next (e.closed.take b.blocks.length) Mx _ j) ?_;obtain ⟨_,HD,_⟩:=jK DZ HD;exact AL (At1 _ _ (kI HD))
     exact AL (At1 _ _ (kI HD))
   obtain ⟨_,HD⟩ | ⟨_,HD⟩:=cK HD
   . obtain ⟨_,k,HD⟩:=bK HD;refine A ?_;refine YA (Rk b.next (e.closed.take b.blocks.length) Mx _ k) ?_;obtain ⟨_,HD,_⟩:=jK DZ HD;exact AL (At1 _ _ (kI HD))
   exact AL (At1 _ _ (kI HD))
 exact AL (At1 _ _ (kI HD))
def W3(b:Aa)(e:Int):Int->Option ((Int)⊕(Int⊕Bool))
 | a=>cond (a<(b.length:Int)) ((CU b a).bind λ f=>cond (f=e) (some (.inr (.inr true))) (some (.inl (i64.wrap (a+1))))) (some (.inr (.inl a)))
def HJ(b:Aa)(e:Int):Option (Bool):=
 (C9 (W3 b e) 0).bind (λ | .inl F4=>some false | .inr (a)=>some a)
theorem Ml{e f r}(a:HJ e f=some r):
   Rq 18 [sD (CT e),iD f] [] [] (bD r):=by
 refine EA func18 Aed ?_;unfold HJ at a;obtain ⟨i,g,a⟩:=bE a;refine H2 g [0,1] [] (λ q=>[(5,iD q)]) (λ _=>[]) ?_;rintro j _ EL b;rw[W3.eq_1] at EL;obtain ⟨_,EL⟩ | ⟨_,EL⟩:=cK EL
 . cases kR EL;exact zP a
 obtain ⟨_,EL,_⟩:=jK Dl EL;obtain ⟨_,EL⟩ | ⟨_,EL⟩:=cK EL
 . exact AL (b _ _ (kI EL))
 cases kR EL;exact zP a
def ZU(a:Nt)(e:Ad)(b:Int):Int->Option ((Int)⊕(Int⊕Bool))
 | Ls=>cond (Ls<(a.CV.length:Int)) ((CU e Ls).bind λ LG=>cond LG ((CU a.CV Ls).bind λ Sd=>cond (Sd.PK=b) (some (.inr (.inr false))) (cond (Sd.out=b) (some (.inr (.inr false))) (some (.inl (i64.wrap (Ls+1)))))) (some (.inl (i64.wrap (Ls+1))))) (some (.inr (.inl Ls)))
def ZT(a:Ab)(b:Int):Int->Option ((Int)⊕(Int⊕Bool))
 | IW=>cond (IW<(a.length:Int)) ((CU a IW).bind λ Mu=>(HJ Mu b).bind λ Ue=>cond Ue (some (.inr (.inr false))) (some (.inl (i64.wrap (IW+1))))) (some (.inr (.inl IW)))
def N1(i:Nt)(f:Me)(g:KM)(j:Ab)(k:Ad):Option (Bool):=
 cond ((f.C0.length:Int)=0) (some false) ((CU f.C0 0).bind λ a=>(CU g.CQ a).bind λ n=>cond (n=(-1)) ((CU g.CR a).bind λ G3=>cond (0<(G3.length:Int)) (some false) ((C9 (ZT j a) 0).bind (λ | .inl l=>(C9 (ZU i k a) 0).bind (λ | .inl m=>some true | .inr (b)=>some b) | .inr (e)=>some e))) (some false))
theorem Ak5{g b i j k r}(a:N1 g b i j k=some r):
   Rq 137 [.agg g.c,.agg b.c,.agg i.c,sD (DA j),sD (Dn k)] [] [] (bD r):=by
 refine EA func137 Azw ?_;unfold N1 at a;obtain ⟨_,a⟩ | ⟨_,a⟩:=cE a
 . obtain ⟨_,a,n,_⟩:=iE a;have _:(CT b.C0).getD 0 []=_:=Dl n;obtain ⟨_,a,_⟩:=jE Dl a;refine cP a λ _ a=>?_;obtain ⟨_,a,_⟩:=jE I3 a;obtain ⟨_,a⟩ | ⟨_,a⟩:=cE a
   . obtain ⟨l,e,a⟩:=bE a;refine H2 e [3,4,5,11] [5] (λ q=>[(12,iD q)]) (λ _=>[]) ?_;rintro IW _ Ng Bok;rw[ZT.eq_1] at Ng;obtain ⟨_,Ng⟩ | ⟨_,Ng⟩:=cK Ng
     . cases kR Ng;obtain ⟨m,f,a⟩:=bE a;refine H2 f [4,5,11] [5] (λ q=>[(13,iD q)]) (λ _=>[]) ?_;rintro Ls _ EW Agc;rw[ZU.eq_1] at EW;obtain ⟨_,EW⟩ | ⟨_,EW⟩:=cK EW
       . cases kR EW;exact zP a
       obtain ⟨_,EW,_⟩:=jK DZ EW;obtain ⟨_,EW⟩ | ⟨_,EW⟩:=cK EW
       . exact AL (Agc _ _ (kI EW))
       obtain ⟨_,EW,_⟩:=jK Ex EW;obtain ⟨_,EW⟩ | ⟨_,EW⟩:=cK EW
       . obtain ⟨_,EW⟩ | ⟨_,EW⟩:=cK EW
         . exact AL (Agc _ _ (kI EW))
         cases kR EW;exact zP a
       cases kR EW;exact zP a
     obtain ⟨_,Ng,_⟩:=jK I3 Ng;refine Fy Ng Ml λ _ Ng=>?_;obtain ⟨_,Ng⟩ | ⟨_,Ng⟩:=cK Ng
     . exact AL (Bok _ _ (kI Ng))
     cases kR Ng;exact zP a
   exact zP a
 exact zP a
theorem Bas(l)(r):Ot l++[CT r]=Ot (l++[r]):=by simp[Ot]
theorem Bh7:Ot []=[]:=rfl
def Ra(e:KM):Ab×Int->Option ((Ab×Int)⊕((Ab×Int)))
 | (b,a)=>cond (a<(e.CR.length:Int)) ((CU e.CR a).bind λ I8=>cond (I8.length<10000000) (cond (b.length<10000000) (some (.inl ((b++[I8]),(i64.wrap (a+1))))) none) none) (some (.inr (b,a)))
def H9(a:KM):Option (KM):=
 cond (a.CQ.length<10000000) ((C9 (Ra a) ([],0)).bind (λ (v21,Mx)=>some (⟨a.CQ,v21⟩:KM))) none
theorem AZ{p:Prop}(h:p:=by simp[ZF,ZE,ZEu,DX.h,GI.h,DX.h2,GI.h2,HF,FH,Hq,Hr,Bv,Bas,Bh7,X4, *]):p:=h
theorem Xl{a r}(b:H9 a=some r):
   C4 prog 117 [.agg a.c] [] λ h d=>∃m:Nat,h=[(0,.arr 3 1 (CT r.CQ)),(1,.Fi 23 3 1 m (Ot r.CR) none)]/\d= .agg [rD 0 r.CQ,.E8 1 r.CR.length]:=by
 refine EA func117 Baf ?_;unfold H9 at b;obtain ⟨k,b⟩:=gE b;refine He k ?_;obtain ⟨l,g,b⟩:=bE b;refine A ?_;refine Am1 g (λ (q:Ab×Int) (c:Nat)=>⟨[(1,.ptr 1 0),(2,.ptr 2 0),(3,.ptr 3 0),(4,.p (.int .i64 q.2))],[(1,.box [.p (.sl (CT a.CQ)),.p (.sl (DA a.CR))]),(2,.box [.cl [],.cl []]),(3,.box [.ref 7 0 a.CQ.length a.CQ.length,.E8 800025 q.1.length]),(7,.arr 3 1 (CT a.CQ)),(800025,.Fi 23 3 1 c (Ot q.1) none)],28⟩) 0 ((Wk.Bju (id:=3) (j:=1) (q:=800025) (sz:=1) 23 3 rfl rfl rfl AV).trans ((Wk.forget AZ))) ?_;rintro ⟨n,o⟩ i _ EZ MP;rw[Ra.eq_1] at EZ;obtain ⟨_,EZ⟩ | ⟨_,EZ⟩:=cK EZ
 . cases kR EZ;exact zO b
 refine C5 [1,3] [0,0,0,0,0,0,0,2,2,2,0,3] ?_;obtain ⟨I8,EZ,_⟩:=jK I3 EZ;obtain ⟨e,EZ⟩:=gK EZ;refine He e ?_;obtain ⟨f,EZ⟩:=gK EZ;refine He f ?_;refine A ?_;exact MP ((n++[I8]),(i64.wrap (o+1))) (i+1+1) _ (kI EZ) ((Wk.forget AZ))
theorem Nv{a r}(e:H9 a=some r):
   Rq 117 [.agg a.c] [] [(0,.arr 3 1 (CT r.CQ)),(1,.arr 23 1 (DA r.CR))] (.agg [rD 0 r.CQ,rD 1 r.CR]):=by
 have b:=Xl e;rw[<-X4 r.CR] at b;have h2:=C4.Bjs b (Avm r.CR)
 simpa only[X4,rD] using h2
def SX(b:KM)(e:Int)(Lq:Int):Ad×Int->Option ((Ad×Int)⊕((Ad×Int)⊕Bool))
 | (a,Mx)=>(CU b.CR e).bind λ OV=>cond (Mx<(OV.length:Int)) ((CU OV Mx).bind λ KR=>cond (KR<0) (some (.inr (.inr false))) (cond (8<=KR) (some (.inr (.inr false))) ((Adn 8 a KR).bind λ WS=>cond WS (some (.inr (.inr false))) (cond (KR=Lq) (some (.inr (.inr false))) (some (.inl ((a.set KR.toNat true),(i64.wrap (Mx+1))))))))) (some (.inr (.inl (a,Mx))))
def SW(b:KM):Ad×Int->Option ((Ad×Int)⊕((Ad×Int)⊕Bool))
 | (g,a)=>cond (a<(b.CQ.length:Int)) ((CU b.CQ a).bind λ Lq=>cond (Lq<(-1)) (some (.inr (.inr false))) (cond (8<=Lq) (some (.inr (.inr false))) ((C9 (SX b a Lq) (g,0)).bind (λ | .inl (f,i)=>some (.inl (f,(i64.wrap (a+1)))) | .inr (e)=>some (.inr (.inr (e))))))) (some (.inr (.inl (g,a))))
def Ki(a:KM):Option (Bool):=
 cond (48<(a.CQ.length:Int)) (some false) (cond ((a.CQ.length:Int)=(a.CR.length:Int)) ((C9 (SW a) ((List.replicate 8 false),0)).bind (λ | .inl (e,f)=>some true | .inr (b)=>some b)) (some false))
theorem Q8{i r}(a:Ki i=some r):
   Rq 194 [.agg i.c] [] [] (bD r):=by
 refine EA func194 Ayi ?_;unfold Ki at a;obtain ⟨_,a⟩ | ⟨_,a⟩:=cE a
 . refine cP a λ _ a=>?_;obtain ⟨k,b,a⟩:=bE a;refine H2 b [1,3] [1] (λ q=>[(4,iD q.2)]) (λ q=>[(3,.box (dT q.1))]) ?_;rintro ⟨n,o⟩ _ Ip g;rw[SW.eq_1] at Ip;obtain ⟨_,Ip⟩ | ⟨_,Ip⟩:=cK Ip
   . cases kR Ip;exact zP a
   obtain ⟨_,Ip,_⟩:=jK Dl Ip;obtain ⟨_,Ip⟩ | ⟨_,Ip⟩:=cK Ip
   . obtain ⟨_,Ip⟩ | ⟨_,Ip⟩:=cK Ip
     . obtain ⟨l,e,Ip⟩:=bK Ip;refine H2 e [1,3,4] [1] (λ q=>[(5,iD q.2)]) (λ q=>[(3,.box (dT q.1))]) ?_;rintro ⟨m,Mx⟩ _ Hn Bk2;rw[SX.eq_1] at Hn;obtain ⟨_,Hn,_⟩:=jK I3 Hn;obtain ⟨_,Hn⟩ | ⟨_,Hn⟩:=cK Hn
       . cases kR Hn;(try dsimp only at Ip);refine A ?_;exact AL (g _ _ (kI Ip))
       obtain ⟨KR,Hn,_⟩:=jK Dl Hn;obtain ⟨_,Hn⟩ | ⟨_,Hn⟩:=cK Hn
       . obtain ⟨_,Hn⟩ | ⟨_,Hn⟩:=cK Hn
         . obtain ⟨_,f,Hn⟩:=bK Hn;obtain ⟨_,j,_,_⟩:=Ur f;have _:0<=KR/\KR<8:=AQ;have _:(Int.toNat KR)<=7:=AQ;obtain ⟨_,Hn⟩ | ⟨_,Hn⟩:=cK Hn
           . obtain ⟨_,Hn⟩ | ⟨_,Hn⟩:=cK Hn
             . exact AL (Bk2 _ _ (kI Hn))
             cases kR Hn;cases kR Ip;exact zP a
           cases kR Hn;cases kR Ip;exact zP a
         cases kR Hn;cases kR Ip;exact zP a
       cases kR Hn;cases kR Ip;exact zP a
     cases kR Ip;exact zP a
   cases kR Ip;exact zP a
 exact zP a
def Xm(b:KM)(e:Int):Int->Option ((Int)⊕(Int⊕Int))
 | a=>cond (a<(b.CR.length:Int)) ((CU b.CR a).bind λ f=>(HJ f e).bind λ Lq=>cond Lq (some (.inr (.inr ((a:Int))))) (some (.inl (i64.wrap (a+1))))) (some (.inr (.inl a)))
def K8(b:KM)(e:Int):Option (Int):=
 (C9 (Xm b e) 0).bind (λ | .inl H3=>some (-1) | .inr (a)=>some a)
theorem LR{e f r}(a:K8 e f=some r):
   Rq 98 [.agg e.c,iD f] [] [] (iD r):=by
 refine EA func98 Bf9 ?_;unfold K8 at a;obtain ⟨i,g,a⟩:=bE a;refine H2 g [1,2] [2] (λ q=>[(5,iD q)]) (λ _=>[]) ?_;rintro j _ EL b;rw[Xm.eq_1] at EL;obtain ⟨_,EL⟩ | ⟨_,EL⟩:=cK EL
 . cases kR EL;exact zP a
 obtain ⟨_,EL,_⟩:=jK I3 EL;refine Fy EL Ml λ _ EL=>?_;obtain ⟨_,EL⟩ | ⟨_,EL⟩:=cK EL
 . exact AL (b _ _ (kI EL))
 cases kR EL;exact zP a
def LO(a:KM)(b:Int)(e:Int):Option (Int):=
 (Ki a).bind λ f=>cond f (cond (b<0) (some 19) (cond (8<=b) (some 19) (cond (e<0) (some 19) (cond ((a.CQ.length:Int)<=e) (some 19) (some 0))))) (some 20)
theorem Xg{b e f r}(a:LO b e f=some r):
   Rq 187 [.agg b.c,iD e,iD f] [] [] (iD r):=by
 refine EA func187 Ayp ?_;unfold LO at a;refine Ec a Q8 λ _ a=>?_;refine cP a λ _ a=>?_;obtain ⟨_,a⟩ | ⟨_,a⟩:=cE a
 . obtain ⟨_,a⟩ | ⟨_,a⟩:=cE a
   . obtain ⟨_,a⟩ | ⟨_,a⟩:=cE a
     . refine cP a λ _ a=>?_;exact zP a
     exact zP a
   exact zP a
 exact zP a
def Qa(b:KM)(a:Int):Option (Int):=
 (Ki b).bind λ e=>cond e (cond (a<0) (some 19) (cond (8<=a) (some 19) (some 0))) (some 20)
theorem Ac2{b e r}(a:Qa b e=some r):
   Rq 208 [.agg b.c,iD e] [] [] (iD r):=by
 refine EA func208 Ay9 ?_;unfold Qa at a;refine Ec a Q8 λ _ a=>?_;refine cP a λ _ a=>?_;obtain ⟨_,a⟩ | ⟨_,a⟩:=cE a
 . refine cP a λ _ a=>?_;exact zP a
 exact zP a
def Iv(b:KM)(a:Int):Option (KM×Int):=
 (LO b 0 a).bind λ f=>cond (f=0) ((CU b.CQ a).bind λ g=>cond (g=(-1)) (some ((⟨[],[]⟩:KM),24)) ((H9 b).bind λ e=>(CU e.CQ a).bind λ G3=>some ((⟨(e.CQ.set a.toNat (-1)),e.CR⟩:KM),0))) (some ((⟨[],[]⟩:KM),f))
theorem N2{b e r}(a:Iv b e=some r):
   Rq 141 [.agg b.c,iD e] [] [] (.Em [.agg r.1.c,iD r.2]):=by
 refine EA func141 Azt ?_;unfold Iv at a;refine Ec a Xg λ _ a=>?_;refine cP a λ _ a=>?_;obtain ⟨_,a,_⟩:=jE Dl a;obtain ⟨_,a⟩ | ⟨_,a⟩:=cE a
 . refine Ec a Nv λ _ a=>?_;obtain ⟨_,a,_⟩:=jE Dl a;exact zP a
 exact zP a
def Jw(e:Aa)(f:Int):Aa×Int->Option ((Aa×Int)⊕((Aa×Int)))
 | (b,a)=>cond (a<(e.length:Int)) ((CU e a).bind λ G3=>cond (G3=f) (some (.inl (b,(i64.wrap (a+1))))) (cond (b.length+1<10000000) (some (.inl ((b++[G3]),(i64.wrap (a+1))))) none)) (some (.inr (b,a)))
def IC(a:Aa)(b:Int):Option Aa:=
 (C9 (Jw a b) ([],0)).bind (λ (IW,My)=>some IW)
theorem W1{b e r}(a:IC b e=some r):
   Rq 212 [sD (CT b),iD e] [] [] (sD (CT r)):=by
 refine EA func212 Ay5 ?_;unfold IC at a;obtain ⟨i,g,a⟩:=bE a;refine A ?_;refine EX g (λ q=>⟨[(0,sD (CT b)),(1,iD e),(5,rD 25 q.1),(6,iD q.2)],[(25,.arr 3 1 (CT q.1))],27⟩) ((Wk.nil (t:=5) (q:=25) (sz:=1) 3 rfl rfl AV).trans WL) ?_;rintro ⟨j,k⟩ _ EU Y9;rw[Jw.eq_1] at EU;obtain ⟨_,EU⟩ | ⟨_,EU⟩:=cK EU
 . cases kR EU;exact zP a
 obtain ⟨_,EU,_⟩:=jK Dl EU;obtain ⟨_,EU⟩ | ⟨_,EU⟩:=cK EU
 . obtain ⟨f,EU⟩:=gK EU;refine He f ?_;exact AL (Y9 _ _ (kI EU))
 exact AL (Y9 _ _ (kI EU))
def LQ(b:KM)(e:Int):Option (KM×Int×Int):=
 (Qa b e).bind λ g=>cond (g=0) ((K8 b e).bind λ a=>cond (a<0) (some ((⟨[],[]⟩:KM),0,25)) ((H9 b).bind λ f=>(CU f.CR a).bind λ i=>(IC i e).bind λ Lq=>some ((⟨f.CQ,(f.CR.set a.toNat Lq)⟩:KM),a,0))) (some ((⟨[],[]⟩:KM),0,g))
theorem Xk{b e r}(a:LQ b e=some r):
   Rq 186 [.agg b.c,iD e] [] [] (.Em [.agg r.1.c,iD r.2.1,iD r.2.2]):=by
 refine EA func186 Ayq ?_;unfold LQ at a;refine Ec a Ac2 λ _ a=>?_;refine cP a λ _ a=>?_;refine Ec a LR λ _ a=>?_;obtain ⟨_,a⟩ | ⟨_,a⟩:=cE a
 . refine Ec a Nv λ _ a=>?_;refine C5 [2,20023] [0,0,0,0,0,0,0,0,0,2,0,3] ?_;obtain ⟨_,a,_⟩:=jE I3 a;refine FO a W1 λ _ a=>?_;exact zP a
 exact zP a
abbrev AA:=List Gnt
def S0(e:Ad):Aa×Ab×AA×Int->Option ((Aa×Ab×AA×Int)⊕((Aa×Ab×AA×Int)))
 | (a,b,I9,F4)=>cond (F4<(a.length:Int)) ((CU a F4).bind λ I4=>cond (I4=(-1)) ((CU e F4).bind λ OW=>cond OW (some (.inl (a,b,I9,(i64.wrap (F4+1))))) ((CU b F4).bind λ OS=>cond (0<(OS.length:Int)) ((CU OS 0).bind λ YC=>cond (0<=1/\1<=(OS.length:Int)/\(OS.length:Int)<=(OS.length:Int)) (cond (I9.length+1<10000000) (some (.inl ((a.set F4.toNat YC),(b.set F4.toNat ((OS.take OS.length).drop 1)),(I9++[(⟨YC,F4⟩:Gnt)]),(i64.wrap (F4+1))))) none) none) (some (.inl (a,b,I9,(i64.wrap (F4+1))))))) (some (.inl (a,b,I9,(i64.wrap (F4+1)))))) (some (.inr (a,b,I9,F4)))
def N4(a:KM)(b:Ad):Option (KM×AA×Int):=
 (Ki a).bind λ f=>cond f (cond ((b.length:Int)=(a.CQ.length:Int)) ((H9 a).bind λ e=>(C9 (S0 b) (e.CQ,e.CR,[],0)).bind (λ (v43,v44,v45,v46)=>some ((⟨v43,v44⟩:KM),v45,0))) (some ((⟨[],[]⟩:KM),[],19))) (some ((⟨[],[]⟩:KM),[],20))
theorem Ak8{j b r}(a:N4 j b=some r):
   Rq 152 [.agg j.c,sD (Dn b)] [] [] (.Em [.agg r.1.c,sD (Hz r.2.1),iD r.2.2]):=by
 refine EA func152 Azk ?_;unfold N4 at a;refine Ec a Q8 λ _ a=>?_;refine cP a λ _ a=>?_;refine cP a λ _ a=>?_;refine Ec a Nv λ _ a=>?_;obtain ⟨k,g,a⟩:=bE a;refine A ?_;refine EX g (λ q=>⟨[(1,sD (Dn b)),(2,.ptr 2 0),(4,.ptr 4 0),(7,rD 79 q.2.2.1),(8,iD q.2.2.2)],[(2,.box [rD 10022 q.1,rD 20022 q.2.1]),(4,.box [.cl [],.cl []]),(79,.arr 205 2 (Hz q.2.2.1)),(10022,.arr 3 1 (CT q.1)),(20022,.arr 23 1 (DA q.2.1))],82⟩) ((Wk.nil (t:=7) (q:=79) (sz:=2) 205 rfl rfl AV).trans WL) ?_;rintro ⟨l,m,I9,F4⟩ _ FE Al5;rw[S0.eq_1] at FE;obtain ⟨_,FE⟩ | ⟨_,FE⟩:=cK FE
 . cases kR FE;exact zP a
 obtain ⟨_,FE,_⟩:=jK Dl FE;obtain ⟨_,FE⟩ | ⟨_,FE⟩:=cK FE
 . exact AL (Al5 _ _ (kI FE))
 obtain ⟨_,FE,_⟩:=jK DZ FE;obtain ⟨_,FE⟩ | ⟨_,FE⟩:=cK FE
 . obtain ⟨OS,FE,_⟩:=jK I3 FE;obtain ⟨_,FE⟩ | ⟨_,FE⟩:=cK FE
   . exact AL (Al5 _ _ (kI FE))
   obtain ⟨_,FE,i,_⟩:=iK FE;have _:(CT OS).getD 0 []=_:=Dl i;refine Dd [0,0,0,0,0,0,0,0,0,0,3] ?_;obtain ⟨e,FE⟩:=gK FE;have _:=Bg e;obtain ⟨f,FE⟩:=gK FE;(try simp only[go_sem, *,J7 OS]);refine An f ?_;exact AL (Al5 _ _ (kI FE))
 exact AL (Al5 _ _ (kI FE))
def SY(e:KM)(f:Int):Aa×Int->Option ((Aa×Int)⊕((Aa×Int)))
 | (b,a)=>cond (a<(e.CQ.length:Int)) ((CU e.CQ a).bind λ Jb=>cond (Jb=f) (cond (b.length+1<10000000) (some (.inl ((b++[a]),(i64.wrap (a+1))))) none) (some (.inl (b,(i64.wrap (a+1)))))) (some (.inr (b,a)))
def LP(a:KM)(b:Int):Option (Aa×Int):=
 (Qa a b).bind λ e=>cond (e=0) ((C9 (SY a b) ([],0)).bind (λ (v20,v21)=>some (v20,0))) (some ([],e))
theorem Xi{e f r}(a:LP e f=some r):
   Rq 175 [.agg e.c,iD f] [] [] (.Em [sD (CT r.1),iD r.2]):=by
 refine EA func175 Az1 ?_;unfold LP at a;refine Ec a Ac2 λ _ a=>?_;refine cP a λ _ a=>?_;obtain ⟨j,i,a⟩:=bE a;refine A ?_;refine EX i (λ q=>⟨[(1,iD f),(2,.ptr 2 0),(7,rD 32 q.1),(8,iD q.2)],[(2,.box e.c),(32,.arr 3 1 (CT q.1))],34⟩) ((Wk.nil (t:=7) (q:=32) (sz:=1) 3 rfl rfl AV).trans WL) ?_;rintro ⟨k,l⟩ _ FD b;rw[SY.eq_1] at FD;obtain ⟨_,FD⟩ | ⟨_,FD⟩:=cK FD
 . cases kR FD;exact zP a
 obtain ⟨_,FD,_⟩:=jK Dl FD;obtain ⟨_,FD⟩ | ⟨_,FD⟩:=cK FD
 . exact AL (b _ _ (kI FD))
 obtain ⟨g,FD⟩:=gK FD;refine He g ?_;exact AL (b _ _ (kI FD))
def NL(a:Tsk)(b:Int):Option (Bool):=
 cond (a.state=0) (cond (a.pick=b) (some true) (some (decide (a.drop=b)))) (cond (a.state=1) (cond (a.pick=b) (some true) (some (decide (a.drop=b)))) (cond (a.state=2) (some (decide (a.drop=b))) (some false)))
theorem ZP{b e r}(a:NL b e=some r):
   Rq 136 [.agg b.c,iD e] [] [] (bD r):=by
 refine EA func136 Azx ?_;unfold NL at a;obtain ⟨_,a⟩ | ⟨_,a⟩:=cE a
 . obtain ⟨_,a⟩ | ⟨_,a⟩:=cE a
   . refine cP a λ _ a=>?_;exact zP a
   refine cP a λ _ a=>?_;exact zP a
 refine cP a λ _ a=>?_;exact zP a
def SK(f:Nt)(e:Int):Int->Option ((Int)⊕(Int⊕(Int×Int)))
 | a=>cond (a<(f.CV.length:Int)) ((CU f.CV a).bind λ b=>cond (b.base<=e) (cond (e<(i64.wrap (b.base+b.Ei))) (some (.inr (.inr (((a,(i64.wrap ((i64.wrap (e - b.base))+1))):Int×Int))))) (some (.inl (i64.wrap (a+1))))) (some (.inl (i64.wrap (a+1))))) (some (.inr (.inl a)))
def Fo(b:Nt)(e:Int):Option (Int×Int):=
 (C9 (SK b e) 0).bind (λ | .inl Hu=>some ((-1),0) | .inr (a)=>some a)
theorem F7{e f r}(a:Fo e f=some r):
   Rq 112 [.agg e.c,iD f] [] [] (.Em [iD r.1,iD r.2]):=by
 refine EA func112 Baj ?_;unfold Fo at a;obtain ⟨i,g,a⟩:=bE a;refine H2 g [1,2] [2] (λ q=>[(6,iD q)]) (λ _=>[]) ?_;rintro j _ EL b;rw[SK.eq_1] at EL;obtain ⟨_,EL⟩ | ⟨_,EL⟩:=cK EL
 . cases kR EL;exact zP a
 obtain ⟨_,EL,_⟩:=jK Ex EL;obtain ⟨_,EL⟩ | ⟨_,EL⟩:=cK EL
 . exact AL (b _ _ (kI EL))
 obtain ⟨_,EL⟩ | ⟨_,EL⟩:=cK EL
 . exact AL (b _ _ (kI EL))
 refine Dd [0,0,0,0,0,0,0,0] ?_;cases kR EL;exact zP a
def LH(b:Nt)(a:Int)(e:Int):Option (Bool):=
 cond (a<0) (some false) ((Fo b a).bind λ (x2,x3)=>some (decide (x2=e)))
theorem WZ{b e f r}(a:LH b e f=some r):
   Rq 227 [.agg b.c,iD e,iD f] [] [] (bD r):=by
 refine EA func227 Axy ?_;unfold LH at a;obtain ⟨_,a⟩ | ⟨_,a⟩:=cE a
 . refine Ec a F7 ?_;rintro ⟨_,_⟩ a;exact zP a
 exact zP a
abbrev Ao:=List Tsk
def JV(f:Nt)(a:KP)(g:Ao)(b:Int):Option (Bool):=
 cond (a.state=1) ((LH f a.cell b).bind λ i=>cond i (some true) ((LH f a.Ff b).bind λ j=>cond j (some true) (cond (a.DY<0) (some false) ((CU g a.DY).bind λ e=>cond (a.Dx=1) (cond (e.pick=b) (some true) (cond (e.drop=b) (some true) (cond (a.Dx=2) (some false) (some false)))) (cond (a.Dx=2) (some (decide (e.drop=b))) (some false)))))) (some false)
theorem Aaq{b e f g r}(a:JV b e f g=some r):
   Rq 214 [.agg b.c,.agg e.c,sD (DF f),iD g] [] [] (bD r):=by
 refine EA func214 Ay3 ?_;unfold JV at a;refine cP a λ _ a=>?_;refine Ec a WZ λ _ a=>?_;obtain ⟨_,a⟩ | ⟨_,a⟩:=cE a
 . refine Ec a WZ λ _ a=>?_;obtain ⟨_,a⟩ | ⟨_,a⟩:=cE a
   . obtain ⟨_,a⟩ | ⟨_,a⟩:=cE a
     . obtain ⟨_,a,_⟩:=jE EG a;obtain ⟨_,a⟩ | ⟨_,a⟩:=cE a
       . refine cP a λ _ a=>?_;exact zP a
       obtain ⟨_,a⟩ | ⟨_,a⟩:=cE a
       . obtain ⟨_,a⟩ | ⟨_,a⟩:=cE a
         . refine cP a λ _ a=>?_;exact zP a
         exact zP a
       exact zP a
     exact zP a
   exact zP a
 exact zP a
abbrev Ag:=List KP
def SH(b:Nt)(e:Ag)(f:Ao)(a:Int):Aa×Int->Option ((Aa×Int)⊕((Aa×Int)))
 | (F4,Hu)=>cond (Hu<(e.length:Int)) ((CU b.CV a).bind λ Fj=>cond Fj.Fw (some (.inr (F4,Hu))) ((CU e Hu).bind λ Nr=>(JV b Nr f a).bind λ OS=>cond OS ((CU F4 a).bind λ Nj=>some (.inl ((F4.set a.toNat (i64.wrap (Nj+1))),(i64.wrap (Hu+1))))) (some (.inl (F4,(i64.wrap (Hu+1))))))) (some (.inr (F4,Hu)))
def SF(b:Nt)(f:Ag)(g:Ao):Aa×Int->Option ((Aa×Int)⊕((Aa×Int)))
 | (e,a)=>cond (a<(b.CV.length:Int)) ((C9 (SH b f g a) (e,0)).bind (λ (v38,v39)=>some (.inl (v38,(i64.wrap (a+1)))))) (some (.inr (e,a)))
def JW(a:Nt)(b:Ag)(e:Ao):Option Aa:=
 cond (a.CV.length<10000000) ((C9 (SF a b e) ((List.replicate a.CV.length 0),0)).bind (λ (v40,v41)=>some v40)) none
theorem Aar{g i j r}(a:JW g i j=some r):
   Rq 191 [.agg g.c,sD (Ed i),sD (DF j)] [] [] (sD (CT r)):=by
 refine EA func191 Ayl ?_;unfold JW at a;obtain ⟨k,a⟩:=gE a;refine He k ?_;obtain ⟨m,e,a⟩:=bE a;refine H2 e [1,2,3] [3] (λ q=>[(7,rD 13 q.1),(8,iD q.2)]) (λ q=>[(13,.arr 3 1 (CT q.1))]) ?_;rintro ⟨n,o⟩ _ Hw b;rw[SF.eq_1] at Hw;obtain ⟨_,Hw⟩ | ⟨_,Hw⟩:=cK Hw
 . cases kR Hw;exact zP a
 obtain ⟨l,f,Hw⟩:=bK Hw;refine H2 f [1,2,3,8] [3] (λ q=>[(7,rD 13 q.1),(9,iD q.2)]) (λ q=>[(13,.arr 3 1 (CT q.1))]) ?_;rintro ⟨F4,Hu⟩ _ DQ XE;rw[SH.eq_1] at DQ;obtain ⟨_,DQ⟩ | ⟨_,DQ⟩:=cK DQ
 . cases kR DQ;exact AL (b _ _ (kI Hw))
 obtain ⟨_,DQ,_⟩:=jK Ex DQ;obtain ⟨_,DQ⟩ | ⟨_,DQ⟩:=cK DQ
 . refine Dd [0,0,0,0,0,0,0,3] ?_;obtain ⟨_,DQ,_⟩:=jK Db DQ;refine Sc DQ Aaq λ _ DQ=>?_;obtain ⟨_,DQ⟩ | ⟨_,DQ⟩:=cK DQ
   . exact AL (XE _ _ (kI DQ))
   obtain ⟨_,DQ,_⟩:=jK Dl DQ;exact AL (XE _ _ (kI DQ))
 cases kR DQ;try dsimp only at Hw
 refine A ?_;exact AL (b _ _ (kI Hw))
def SV(b:Nt)(g:Ag)(e:Ao)(i:Int):Option (Bool):=
 (CU e i).bind λ a=>(JW b g e).bind λ f=>cond (a.state=0) ((CU f a.pick).bind λ j=>(CU b.CV a.pick).bind λ Ju=>cond (j<Ju.Ei) ((CU f a.drop).bind λ Hy=>(CU b.CV a.drop).bind λ I4=>some (decide (Hy<I4.Ei))) (some false)) (some false)
theorem Art{b e f g r}(a:SV b e f g=some r):
   Rq 146 [.agg b.c,sD (Ed e),sD (DF f),iD g] [] [] (bD r):=by
 refine EA func146 Azp ?_;unfold SV at a;refine Hx [0,10,20,40,50,60,70,81,32,90,103] ?_;obtain ⟨_,a,_⟩:=jE EG a;refine FO a Aar λ _ a=>?_;refine Dd [0,0,0,0,0,0,0,0,0,0,0,0,0,0,0,0,0,0,0,0,0,0,0,0,0,0,0,0,0,0,0,0,0,0] ?_;refine cP a λ _ a=>?_;obtain ⟨_,a,_⟩:=jE Dl a;obtain ⟨_,a,_⟩:=jE Ex a;refine cP a λ _ a=>?_;obtain ⟨_,a,_⟩:=jE Dl a;obtain ⟨_,a,_⟩:=jE Ex a;exact zP a
def ZN(e:Nt)(f:Int):Aa×Int->Option ((Aa×Int)⊕((Aa×Int)))
 | (b,a)=>(CU e.CV f).bind λ Ir=>cond (a<=Ir.Ei) (cond (b.length+1<10000000) (some (.inl ((b++[(i64.wrap ((i64.wrap (Ir.base+a)) - 1))]),(i64.wrap (a+1))))) none) (some (.inr (b,a)))
def Iu(a:Nt)(b:Int)(e:Int):Option Aa:=
 (C9 (ZN a b) ([],e)).bind (λ (H3,IW)=>some H3)
theorem JZ{b e g r}(a:Iu b e g=some r):
   Rq 192 [.agg b.c,iD e,iD g] [] [(0,.arr 3 1 (CT r))] (rD 0 r):=by
 refine EA func192 Ayk ?_;unfold Iu at a;obtain ⟨j,i,a⟩:=bE a;refine A ?_;refine EX i (λ q=>⟨[(1,iD e),(3,.ptr 3 0),(7,rD 31 q.1),(8,iD q.2)],[(3,.box b.c),(31,.arr 3 1 (CT q.1))],33⟩) ((Wk.nil (t:=7) (q:=31) (sz:=1) 3 rfl rfl AV).trans WL) ?_;rintro ⟨k,l⟩ _ EU Y9;rw[ZN.eq_1] at EU;obtain ⟨_,EU,_⟩:=jK Ex EU;obtain ⟨_,EU⟩ | ⟨_,EU⟩:=cK EU
 . cases kR EU;(try dsimp only at a);refine A ?_;exact zO a
 obtain ⟨f,EU⟩:=gK EU;refine He f ?_;exact AL (Y9 _ _ (kI EU))
def IB(a:Nt)(b:Me)(e:Int)(f:Int)(i:Bool):Option Ad:=
 cond (0<=0/\0<=(a.blocks.length:Int)/\(a.blocks.length:Int)<=(b.closed.length:Int)) (cond ((b.closed.take a.blocks.length).length<10000000) (cond i ((CU (b.closed.take a.blocks.length) e).bind λ OV=>some ((b.closed.take a.blocks.length).set e.toNat false)) ((E0 b).bind λ g=>cond (0<=(a.blocks.length:Int)/\(a.blocks.length:Int)<=(g.length:Int)) ((CU b.closed f).bind λ G3=>(CU (g.take a.blocks.length) f).bind λ I8=>(CU ((g.set f.toNat G3).take a.blocks.length) e).bind λ I4=>some (((g.set f.toNat G3).set e.toNat false).take a.blocks.length)) none)) none) none
theorem WY{g f l k E r}(a:IB g f l k E=some r):
   Rq 226 [.agg g.c,.agg f.c,iD l,iD k,bD E] [] [] (sD (Dn r)):=by
 refine EA func226 Axz ?_;unfold IB at a;obtain ⟨H,a⟩:=gE a;have N:=Bg H;obtain ⟨I,a⟩:=gE a;try simp only[go_sem, *,Jn f.closed]
 refine An I ?_;obtain ⟨m,a⟩ | ⟨m,a⟩:=cE a
 . (try simp only[go_sem, *,Jn f.closed]);refine Big [0,20,30,40,12,52,60] ?_;refine FO a FN λ B a=>?_;obtain ⟨K,a⟩:=gE a;have Q:=Bg K;have _:g.blocks.length<=B.length:=AQ;have n:((((g.blocks.length:Nat):Int)) - 0).toNat=g.blocks.length:=AT;obtain ⟨G3,a,_,o,p⟩:=jE DZ a;obtain ⟨I8,y,a⟩:=bE a;have b:=Ahy y;have q:=EK b.1;have t:=b.2;have s:(Dn B).getD (Int.toNat k) []=[(.bool I8)]:=D1 _ b.1;obtain ⟨I4,z,a⟩:=bE a;have e:=Ahy z;have i:=EK e.1;have v:=e.2;have u:(Dn (B.set (Int.toNat k) G3)).getD (Int.toNat l) []=[(.bool I4)]:=D1 _ e.1;have j:=i;(try simp only[Bv] at j);cases a;(try simp only[go_sem, *,Ej,D0]);all_goals (try refine Dt ?_)
   all_goals (try simp only[go_sem,Q,n,o,p,q,s,t,i,u,v,j,m,Ej,D0])
   all_goals (try (first | rfl | exact ⟨rfl,rfl⟩ | exact Zk _ _ | exact Jn _ | (simp;done)))
 obtain ⟨_,a,_,w,x⟩:=jE DZ a;cases a;try simp only[go_sem, *,Jn f.closed]
 all_goals ((try refine Dt ?_);(try simp only[go_sem,N,Jn f.closed,m,w,x]);try first | rfl | exact ⟨rfl,rfl⟩ | (simp;done))
def PD(i:Ab)(e:Int)(Mw:Int):Aa×Int->Option ((Aa×Int)⊕((Aa×Int)))
 | (a,b)=>(CU i Mw).bind λ f=>cond (b<(f.length:Int)) ((CU f b).bind λ g=>(CU a g).bind λ U9=>cond (U9=(i64.wrap (e - 1))) ((CU a Mw).bind λ j=>some (.inl ((a.set Mw.toNat e),(i64.wrap (b+1))))) (some (.inl (a,(i64.wrap (b+1)))))) (some (.inr (a,b)))
def Vk(b:Ab)(e:Ad)(a:Int):Aa×Int->Option ((Aa×Int)⊕((Aa×Int)))
 | (Vd,Mw)=>cond (Mw<(b.length:Int)) ((CU e Mw).bind λ KO=>cond KO (some (.inl (Vd,(i64.wrap (Mw+1))))) ((CU Vd Mw).bind λ NG=>cond (0<=NG) (some (.inl (Vd,(i64.wrap (Mw+1))))) ((C9 (PD b a Mw) (Vd,0)).bind (λ (v78,v79)=>some (.inl (v78,(i64.wrap (Mw+1)))))))) (some (.inr (Vd,Mw)))
def Vj(b:Ab)(e:Ad):Aa×Int->Option ((Aa×Int)⊕((Aa×Int)))
 | (O8,a)=>cond (a<(b.length:Int)) ((C9 (Vk b e a) (O8,0)).bind (λ (v80,v81)=>some (.inl (v80,(i64.wrap (a+1)))))) (some (.inr (O8,a)))
def PC(e:Ab):Aa×Int->Option ((Aa×Int)⊕((Aa×Int)))
 | (b,a)=>cond (a<(e.length:Int)) ((CU b a).bind λ f=>some (.inl ((b.set a.toNat (-1)),(i64.wrap (a+1))))) (some (.inr (b,a)))
def Gx(a:Ab)(f:Ad)(b:Int):Option Aa:=
 cond (a.length<10000000) ((C9 (PC a) ((List.replicate a.length 0),0)).bind (λ (v88,v89)=>(CU f b).bind λ e=>cond e (some v88) ((CU v88 b).bind λ g=>(C9 (Vj a f) ((v88.set b.toNat 0),1)).bind (λ (v160,v161)=>some v160)))) none
theorem Je{j k l r}(a:Gx j k l=some r):
   Rq 110 [sD (DA j),sD (Dn k),iD l] [] [] (sD (CT r)):=by
 refine EA func110 Aii ?_;unfold Gx at a;obtain ⟨m,a⟩:=gE a;refine He m ?_;obtain ⟨v,b,a⟩:=bE a;refine H2 b [0,1,2] [] (λ q=>[(7,rD 14 q.1),(8,iD q.2)]) (λ q=>[(14,.arr 3 1 (CT q.1))]) ?_;rintro ⟨w,x⟩ _ Hw i;rw[PC.eq_1] at Hw;obtain ⟨_,Hw⟩ | ⟨_,Hw⟩:=cK Hw
 . cases kR Hw;obtain ⟨_,a,_⟩:=jE DZ a;obtain ⟨_,a⟩ | ⟨_,a⟩:=cE a
   . obtain ⟨_,a,_⟩:=jE Dl a;obtain ⟨n,e,a⟩:=bE a;refine H2 e [0,1] [] (λ q=>[(7,rD 14 q.1),(9,iD q.2)]) (λ q=>[(14,.arr 3 1 (CT q.1))]) ?_;rintro ⟨O8,s⟩ _ Ld Boi;rw[Vj.eq_1] at Ld;obtain ⟨_,Ld⟩ | ⟨_,Ld⟩:=cK Ld
     . cases kR Ld;exact zP a
     obtain ⟨o,f,Ld⟩:=bK Ld;refine H2 f [0,1,9] [] (λ q=>[(7,rD 14 q.1),(10,iD q.2)]) (λ q=>[(14,.arr 3 1 (CT q.1))]) ?_;rintro ⟨Vd,Mw⟩ _ PM Boh;rw[Vk.eq_1] at PM;obtain ⟨_,PM⟩ | ⟨_,PM⟩:=cK PM
     . cases kR PM;exact AL (Boi _ _ (kI Ld))
     obtain ⟨_,PM,_⟩:=jK DZ PM;obtain ⟨_,PM⟩ | ⟨_,PM⟩:=cK PM
     . obtain ⟨_,PM,_⟩:=jK Dl PM;obtain ⟨_,PM⟩ | ⟨_,PM⟩:=cK PM
       . obtain ⟨p,g,PM⟩:=bK PM;refine H2 g [0,1,9,10] [] (λ q=>[(7,rD 14 q.1),(11,iD q.2)]) (λ q=>[(14,.arr 3 1 (CT q.1))]) ?_;rintro ⟨t,u⟩ _ Jl Bdx;rw[PD.eq_1] at Jl;obtain ⟨_,Jl,_⟩:=jK I3 Jl;obtain ⟨_,Jl⟩ | ⟨_,Jl⟩:=cK Jl
         . cases kR Jl;(try dsimp only at PM);refine A ?_;exact AL (Boh _ _ (kI PM))
         obtain ⟨_,Jl,_⟩:=jK Dl Jl;obtain ⟨_,Jl,_⟩:=jK Dl Jl;obtain ⟨_,Jl⟩ | ⟨_,Jl⟩:=cK Jl
         . exact AL (Bdx _ _ (kI Jl))
         obtain ⟨_,Jl,_⟩:=jK Dl Jl;exact AL (Bdx _ _ (kI Jl))
       exact AL (Boh _ _ (kI PM))
     exact AL (Boh _ _ (kI PM))
   exact zP a
 obtain ⟨_,Hw,_⟩:=jK Dl Hw;exact AL (i _ _ (kI Hw))
def PB(e:Aa)(b:Int)(RY:Aa):Aa×Int->Option ((Aa×Int)⊕((Aa×Int)))
 | (a,Ls)=>cond (0<=Ls) ((CU e b).bind λ LG=>cond (0<LG) ((CU RY Ls).bind λ Sd=>(CU e Sd).bind λ KO=>cond (KO=(i64.wrap (LG - 1))) ((CU a b).bind λ NG=>some (.inl ((a.set b.toNat Sd),(i64.wrap (Ls - 1))))) (some (.inl (a,(i64.wrap (Ls - 1)))))) (some (.inr (a,Ls)))) (some (.inr (a,Ls)))
def Vi(e:Ab)(f:Aa):Aa×Int->Option ((Aa×Int)⊕((Aa×Int)))
 | (b,a)=>cond (a<(e.length:Int)) ((CU b a).bind λ Jb=>(CU e a).bind λ RY=>(C9 (PB f a RY) ((b.set a.toNat (-1)),(i64.wrap ((RY.length:Int) - 1)))).bind (λ (v50,v51)=>some (.inl (v50,(i64.wrap (a+1)))))) (some (.inr (b,a)))
def K0(a:Ab)(b:Ad)(e:Int):Option Aa:=
 (Gx a b e).bind λ f=>cond (a.length<10000000) ((C9 (Vi a f) ((List.replicate a.length 0),0)).bind (λ (v52,v53)=>some v52)) none
theorem SL{g i j r}(a:K0 g i j=some r):
   Rq 161 [sD (DA g),sD (Dn i),iD j] [] [] (sD (CT r)):=by
 refine EA func161 Aic ?_;unfold K0 at a;refine Ec a Je λ _ a=>?_;obtain ⟨k,a⟩:=gE a;refine He k ?_;obtain ⟨l,e,a⟩:=bE a;refine H2 e [0,7] [] (λ q=>[(8,rD 18 q.1),(9,iD q.2)]) (λ q=>[(18,.arr 3 1 (CT q.1))]) ?_;rintro ⟨o,p⟩ _ FD b;rw[Vi.eq_1] at FD;obtain ⟨_,FD⟩ | ⟨_,FD⟩:=cK FD
 . cases kR FD;exact zP a
 obtain ⟨_,FD,_⟩:=jK Dl FD;obtain ⟨_,FD,_⟩:=jK I3 FD;obtain ⟨m,f,FD⟩:=bK FD;refine H2 f [0,7,9] [] (λ q=>[(8,rD 18 q.1),(10,iD q.2)]) (λ q=>[(18,.arr 3 1 (CT q.1))]) ?_;rintro ⟨n,Ls⟩ _ EW Agc;rw[PB.eq_1] at EW;obtain ⟨_,EW⟩ | ⟨_,EW⟩:=cK EW
 . cases kR EW;exact AL (b _ _ (kI FD))
 obtain ⟨_,EW,_⟩:=jK Dl EW;obtain ⟨_,EW⟩ | ⟨_,EW⟩:=cK EW
 . cases kR EW;(try dsimp only at FD);refine A ?_;exact AL (b _ _ (kI FD))
 obtain ⟨_,EW,_⟩:=jK Dl EW;refine Dd [0,0,0,0,0,0,0,0,0,0] ?_;obtain ⟨_,EW,_⟩:=jK Dl EW;obtain ⟨_,EW⟩ | ⟨_,EW⟩:=cK EW
 . exact AL (Agc _ _ (kI EW))
 obtain ⟨_,EW,_⟩:=jK Dl EW;exact AL (Agc _ _ (kI EW))
def NR(b:Int)(e:Aa):Aa×Int->Option ((Aa×Int)⊕((Aa×Int)))
 | (a,I9)=>cond (I9=b) (some (.inr (a,I9))) ((CU e I9).bind λ RX=>cond (a.length+1<10000000) (some (.inl ((a++[RX]),RX))) none)
def Gt(e:Ab)(f:Ad)(a:Int)(b:Int):Option Aa:=
 (Gx e f b).bind λ g=>(CU g a).bind λ i=>cond (i<0) (some []) ((K0 e f b).bind λ j=>(C9 (NR b j) ([a],a)).bind (λ (Ls,RZ)=>some Ls))
theorem Aau{f g i j r}(a:Gt f g i j=some r):
   Rq 111 [sD (DA f),sD (Dn g),iD i,iD j] [] [] (sD (CT r)):=by
 refine EA func111 Zj ?_;unfold Gt at a;refine Ec a Je λ _ a=>?_;obtain ⟨_,a,_⟩:=jE Dl a;obtain ⟨_,a⟩ | ⟨_,a⟩:=cE a
 . refine Ec a SL λ _ a=>?_;obtain ⟨k,e,a⟩:=bE a;refine H2 e [3,9] [] (λ q=>[(2,iD q.2),(10,rD 24 q.1)]) (λ q=>[(24,.arr 3 1 (CT q.1))]) ?_;rintro ⟨l,I9⟩ _ EP Aax;rw[NR.eq_1] at EP;obtain ⟨_,EP⟩ | ⟨_,EP⟩:=cK EP
   . obtain ⟨_,EP,_⟩:=jK Dl EP;obtain ⟨b,EP⟩:=gK EP;refine He b ?_;exact AL (Aax _ _ (kI EP))
   cases kR EP;exact zP a
 exact zP a
def Ve(b:Nt)(g:Me)(e:Int)(f:Int):Int->Option ((Int)⊕(Int⊕(Aa×Bool)))
 | a=>cond (a<2) ((IB b g e f (decide (a=1))).bind λ i=>(Gt b.next i e f).bind λ G3=>cond (0<(G3.length:Int)) (cond (0<=1/\1<=(G3.length:Int)/\(G3.length:Int)<=(G3.length:Int)) (some (.inr (.inr (((((G3.take G3.length).drop 1),true):Aa×Bool))))) none) (some (.inl (i64.wrap (a+1))))) (some (.inr (.inl a)))
def Jv(b:Nt)(e:Me)(f:Int)(g:Int):Option (Aa×Bool):=
 (C9 (Ve b e f g) 0).bind (λ | .inl H3=>some ([],false) | .inr (a)=>some a)
theorem SC{i j k l r}(a:Jv i j k l=some r):
   Rq 213 [.agg i.c,.agg j.c,iD k,iD l] [] [] (.Em [sD (CT r.1),bD r.2]):=by
 refine EA func213 Ay4 ?_;unfold Jv at a;obtain ⟨n,m,a⟩:=bE a;refine H2 m [2,3,4,5] [4,5] (λ q=>[(10,iD q)]) (λ _=>[]) ?_;rintro o _ EL g;rw[Ve.eq_1] at EL;obtain ⟨_,EL⟩ | ⟨_,EL⟩:=cK EL
 . cases kR EL;exact zP a
 refine Hx [0,10,20,30,40,50,60,70,90,100,82,112,120] ?_;refine Sc EL WY λ _ EL=>?_;refine Sc EL Aau λ G3 EL=>?_;obtain ⟨b,EL⟩ | ⟨b,EL⟩:=cK EL
 . exact AL (g _ _ (kI EL))
 obtain ⟨e,EL⟩:=gK EL;have f:=Bg e;cases kR EL;try dsimp only at a
 cases a;try simp only[go_sem, *,J7 G3]
 all_goals ((try refine Dt ?_);(try simp only[go_sem,b,f,J7 G3]);try first | rfl | exact ⟨rfl,rfl⟩ | (simp;done))
def Vf(e:Me)(b:Aa):Int->Option ((Int)⊕(Int⊕Bool))
 | a=>cond (a<(b.length:Int)) ((CU b a).bind λ f=>(CU e.closed f).bind λ Lq=>cond Lq (some (.inr (.inr false))) (some (.inl (i64.wrap (a+1))))) (some (.inr (.inl a)))
def HH(b:Me)(e:Aa):Option (Bool):=
 (C9 (Vf b e) 0).bind (λ | .inl My=>some true | .inr (a)=>some a)
theorem KX{e f r}(a:HH e f=some r):
   Rq 193 [.agg e.c,sD (CT f)] [] [] (bD r):=by
 refine EA func193 Ayj ?_;unfold HH at a;obtain ⟨i,g,a⟩:=bE a;refine H2 g [1,2] [2] (λ q=>[(5,iD q)]) (λ _=>[]) ?_;rintro j _ EL b;rw[Vf.eq_1] at EL;obtain ⟨_,EL⟩ | ⟨_,EL⟩:=cK EL
 . cases kR EL;exact zP a
 refine Dd [0,0,0,0,0,0,0,0] ?_;obtain ⟨_,EL,_⟩:=jK Dl EL;obtain ⟨_,EL,_⟩:=jK DZ EL;obtain ⟨_,EL⟩ | ⟨_,EL⟩:=cK EL
 . exact AL (b _ _ (kI EL))
 cases kR EL;exact zP a
def NY(a:Nt)(e:Me)(g:Int)(b:Int):Option (Aa×Bool):=
 (Fo a g).bind λ (x1,x2)=>cond (x1=b) ((Iu a b (i64.wrap (x2+1))).bind λ f=>(HH e f).bind λ Mu=>some (f,Mu)) (cond (0<=x1) ((CU a.CV x1).bind λ I4=>(Iu a x1 (i64.wrap (x2+1))).bind λ GA=>cond (GA.length+1<10000000) ((CU a.CV b).bind λ OV=>(Jv a e I4.out OV.PK).bind λ (LG,KR)=>cond ((GA++[I4.out]).length+LG.length<10000000) ((Iu a b 1).bind λ YC=>cond (((GA++[I4.out])++LG).length+YC.length<10000000) (cond KR ((HH e (((GA++[I4.out])++LG)++YC)).bind λ QW=>cond QW (some ((((GA++[I4.out])++LG)++YC),true)) (some ([],false))) (some ([],false))) none) none) none) ((CU a.CV b).bind λ i=>(Jv a e g i.PK).bind λ (Ir,G3)=>cond (Ir.length<10000000) ((Iu a b 1).bind λ Jb=>cond (Ir.length+Jb.length<10000000) (cond G3 ((HH e (Ir++Jb)).bind λ RY=>cond RY (some ((Ir++Jb),true)) (some ([],false))) (some ([],false))) none) none))
theorem Abz{m n o p r}(a:NY m n o p=some r):
   Rq 189 [.agg m.c,.agg n.c,iD o,iD p] [] [] (.Em [sD (CT r.1),bD r.2]):=by
 refine EA func189 Ayn ?_;unfold NY at a;refine Ec a F7 ?_;rintro ⟨_,_⟩ a;obtain ⟨_,a⟩ | ⟨_,a⟩:=cE a
 . obtain ⟨_,a⟩ | ⟨_,a⟩:=cE a
   . refine Dd [0,0,0,0,0,0,0,0,0,2,0,0,0,0,0] ?_;obtain ⟨_,a,_⟩:=jE Ex a;refine FO a SC ?_;rintro ⟨_,_⟩ a;refine Ey [4] [0,10,30,40,22,52,62,70] ?_;obtain ⟨b,a⟩:=gE a;refine He b ?_;refine FO a JZ λ _ a=>?_;obtain ⟨e,a⟩:=gE a;refine He e ?_;refine cP a λ _ a=>?_;obtain ⟨_,j,a⟩:=bE a;refine A ?_;refine CcB (KX j) ?_;refine cP a λ _ a=>?_;exact zP a
   obtain ⟨_,a,_⟩:=jE Ex a;refine Ec a JZ λ _ a=>?_;obtain ⟨f,a⟩:=gE a;refine He f ?_;refine Dd [0,0,0,0,0,0,0,0,0,2,0,0,0,0,0] ?_;obtain ⟨_,a,_⟩:=jE Ex a;refine FO a SC ?_;rintro ⟨_,_⟩ a;refine Ey [4] [0,10,30,40,22,52,62,70] ?_;obtain ⟨g,a⟩:=gE a;refine He g ?_;refine FO a JZ λ _ a=>?_;obtain ⟨i,a⟩:=gE a;refine He i ?_;refine cP a λ _ a=>?_;obtain ⟨_,k,a⟩:=bE a;refine A ?_;refine CcB (KX k) ?_;refine cP a λ _ a=>?_;exact zP a
 refine Ec a JZ λ _ a=>?_;obtain ⟨_,l,a⟩:=bE a;refine A ?_;refine CcB (KX l) ?_;exact zP a
theorem P3(a0)(a1)(a2)(a3)(r:Aa)(a:Gt a0 a1 a2 a3=some r)(m:r≠[]):
   C4 prog 111 [sD (DA a0),sD (Dn a1),iD a2,iD a3] [] λ h d=>h=[(0,.arr 3 1 (CT r))]/\d=rD 0 r:=by
 refine Dw func111 rfl Zj (by simp[Tryz.f111]) ?_;unfold Gt at a;refine Ec a Je λ u a=>?_;obtain ⟨v,a,t,p,s⟩:=jE Dl a;obtain ⟨g,a⟩ | ⟨g,a⟩:=cE a
 . refine Ec a SL λ w a=>?_;obtain ⟨i,f,a⟩:=bE a;refine H2 f [3,9] [] (λ q=>[(2,iD q.2),(10,rD 24 q.1)]) (λ q=>[(24,.arr 3 1 (CT q.1))]) ?_;rintro ⟨o,I9⟩ n EP Aax;rw[NR.eq_1] at EP;obtain ⟨b,EP⟩ | ⟨b,EP⟩:=cK EP
   . obtain ⟨RX,EP,l,j,k⟩:=jK Dl EP;obtain ⟨e,EP⟩:=gK EP;refine He e ?_;exact AL (Aax _ _ (kI EP))
   cases kR EP;exact zO a
 cases a;exact absurd rfl m
def Xd(j:Nt)(k:KM)(l:Int)(m:Int)(n:Ad)(GA:Aa):Int×Int->Option ((Int×Int)⊕((Int×Int)))
 | (J9,a)=>(CU j.next l).bind λ YC=>cond (a<(YC.length:Int)) ((CU YC a).bind λ NF=>cond (NF=m) (some (.inl (J9,(i64.wrap (a+1))))) ((CU (n.take j.blocks.length) NF).bind λ e=>cond e (some (.inl (J9,(i64.wrap (a+1))))) ((CU k.CQ NF).bind λ f=>cond (f=(-1)) ((CU k.CR NF).bind λ g=>cond (0<(g.length:Int)) (some (.inl (J9,(i64.wrap (a+1))))) ((CU GA NF).bind λ b=>cond (b<0) (some (.inl (J9,(i64.wrap (a+1))))) (cond (J9<0) (some (.inl (NF,(i64.wrap (a+1))))) ((CU GA J9).bind λ i=>cond (b<i) (some (.inl (NF,(i64.wrap (a+1))))) (some (.inl (J9,(i64.wrap (a+1))))))))) (some (.inl (J9,(i64.wrap (a+1)))))))) (some (.inr (J9,a)))
def MC(a:Nt)(j:Me)(m:KM)(i:Int)(n:Int)(l:Int):Option (Aa×Bool):=
 (CU a.CV l).bind λ e=>(E0 j).bind λ f=>cond (0<=(a.blocks.length:Int)/\(a.blocks.length:Int)<=(f.length:Int)) (cond ((f.take a.blocks.length).length<10000000) ((CU j.closed e.PK).bind λ Ju=>(CU (f.take a.blocks.length) e.PK).bind λ Jt=>(CU ((f.take a.blocks.length).set e.PK.toNat Ju) i).bind λ RX=>(Gx a.next (((f.take a.blocks.length).set e.PK.toNat Ju).set i.toNat true) e.PK).bind λ GA=>(C9 (Xd a m i n f GA) ((-1),0)).bind (λ (v81,v82)=>cond (v81<0) (some ([],false)) ((Gt a.next (((f.take a.blocks.length).set e.PK.toNat Ju).set i.toNat true) v81 e.PK).bind λ b=>cond (b≠[]) ((Iu a l 1).bind λ g=>cond (b.length+g.length<10000000) ((HH j (b++g)).bind λ k=>some ((b++g),k)) none) none))) none) none
theorem Ag0{b m n i o p r}(a:MC b m n i o p=some r):
   Rq 150 [.agg b.c,.agg m.c,.agg n.c,iD i,iD o,iD p] [] [] (.Em [sD (CT r.1),bD r.2]):=by
 refine EA func150 Azm ?_;unfold MC at a;obtain ⟨j,a,_⟩:=jE Ex a;refine Hx [0,20,30,40,12,52,60] ?_;refine FO a FN λ g a=>?_;obtain ⟨B,a⟩:=gE a;have _:=Bg B;have f:b.blocks.length<=g.length:=AQ;have _:((((b.blocks.length:Nat):Int)) - 0).toNat=b.blocks.length:=AT;obtain ⟨s,a⟩:=gE a;try simp only[go_sem, *,Ej,D0]
 refine An s ?_;obtain ⟨Ju,a,_⟩:=jE DZ a;obtain ⟨_,a,_⟩:=jE DZ a;obtain ⟨_,a,_,w,_⟩:=jE DZ a;have _:=sl w;try simp only[go_sem, *,Ej,D0]
 refine Ec a Je λ GA a=>?_;obtain ⟨E,x,a⟩:=bE a;try simp only[go_sem, *,Ej,D0]
 refine EX x (λ q=>⟨[(3,iD i),(4,iD o),(5,iD p),(6,.ptr 6 0),(7,.ptr 7 0),(8,.ptr 8 0),(14,iD j.PK),(15,.ref 310029 0 ((g.take b.blocks.length).length) ((g.take b.blocks.length).length)),(16,.ref 35 0 ((((g.take b.blocks.length).set (Int.toNat j.PK) Ju).set (Int.toNat i) true).length) ((((g.take b.blocks.length).set (Int.toNat j.PK) Ju).set (Int.toNat i) true).length)),(17,sD (CT GA)),(18,iD q.1),(19,iD q.2)],[(6,.box b.c),(7,.box m.c),(8,.box n.c),(35,.Om 1 (Dn (((g.take b.blocks.length).set (Int.toNat j.PK) Ju).set (Int.toNat i) true))),(310029,.arr 4 1 (Dn (g.take b.blocks.length)))],133⟩) ((Wk.Ao4 (t:=15) (q:=10029) (k:=b.blocks.length) (sz:=1) (e:=4) (es:=Dn g) 310029 (by simp[get,ZE,ZEu,DX.h,GI.h,DX.h2,GI.h2,f]) (by simp[get,ZE,ZEu,DX.h,GI.h,DX.h2,GI.h2,f]) (by simp[ZE,ZEu,DX.h,GI.h,DX.h2,GI.h2,f]) rfl).trans ((Wk.forget (by simp[ZF,ZE,ZEu,DX.h,GI.h,DX.h2,GI.h2,HF,FH,Hq,Hr,Bv,Ej,D0,CJ f, *])))) ?_;rintro ⟨J9,H⟩ _ E6 Agb;rw[Xd.eq_1] at E6;obtain ⟨_,E6,_⟩:=jK I3 E6;obtain ⟨_,E6⟩ | ⟨_,E6⟩:=cK E6
 . cases kR E6;(try dsimp only at a);(try simp only[go_sem, *,Ej,D0]);obtain ⟨l,a⟩ | ⟨l,a⟩:=cE a
   . (try simp only[go_sem, *,Ej,D0]);refine Bih [6] [0,10,20,30,40,60,70,52,82,92,100] ?_;obtain ⟨_,y,a⟩:=bE a;obtain ⟨u,a⟩:=gE a;(try simp only[go_sem, *,Ej,D0]);refine GhD (P3 b.next (((g.take b.blocks.length).set (Int.toNat j.PK) Ju).set (Int.toNat i) true) J9 j.PK _ y (Bg u)) ?_;(try simp only[go_sem, *,Ej,D0]);refine FO a JZ λ _ a=>?_;obtain ⟨v,a⟩:=gE a;(try simp only[go_sem, *,Ej,D0]);refine An v ?_;obtain ⟨_,z,a⟩:=bE a;(try simp only[go_sem, *,Ej,D0]);refine CcB (KX z) ?_;cases a;(try simp only[go_sem, *,Ej,D0]);all_goals (try refine Dt ?_)
     all_goals (try simp only[go_sem,Ej,D0])
     all_goals (try (first | rfl | exact ⟨rfl,rfl⟩ | exact Zk _ _ | exact Jn _ | (simp;done)))
   cases a;(try simp only[go_sem, *,Ej,D0]);all_goals (try refine Dt ?_)
   all_goals (try simp only[go_sem,l,Ej,D0])
   all_goals (try (first | rfl | exact ⟨rfl,rfl⟩ | exact Zk _ _ | exact Jn _ | (simp;done)))
 obtain ⟨_,E6,_⟩:=jK Dl E6;obtain ⟨_,E6⟩ | ⟨_,E6⟩:=cK E6
 . obtain ⟨_,E6,_⟩:=jK DZ E6;obtain ⟨_,E6⟩ | ⟨_,E6⟩:=cK E6
   . obtain ⟨_,E6,_⟩:=jK Dl E6;obtain ⟨_,E6⟩ | ⟨_,E6⟩:=cK E6
     . have E6:=kI E6;(try simp only[go_sem, *,Ej,D0]);exact Agb _ _ E6 ((Wk.forget (by simp[ZF,ZE,ZEu,DX.h,GI.h,DX.h2,GI.h2,HF,FH,Hq,Hr,Bv,Ej,D0,CJ f, *])))
     obtain ⟨_,E6,_⟩:=jK I3 E6;obtain ⟨_,E6⟩ | ⟨_,E6⟩:=cK E6
     . obtain ⟨_,E6,_⟩:=jK Dl E6;obtain ⟨_,E6⟩ | ⟨_,E6⟩:=cK E6
       . (try simp only[go_sem, *,Ej,D0]);refine Auj [0,0,0,0,0,0,0,0,0,0,0,0,0] ?_;obtain ⟨_,E6⟩ | ⟨_,E6⟩:=cK E6
         . obtain ⟨_,E6,_⟩:=jK Dl E6;obtain ⟨_,E6⟩ | ⟨_,E6⟩:=cK E6
           . have E6:=kI E6;(try simp only[go_sem, *,Ej,D0]);exact Agb _ _ E6 ((Wk.forget (by simp[ZF,ZE,ZEu,DX.h,GI.h,DX.h2,GI.h2,HF,FH,Hq,Hr,Bv,Ej,D0,CJ f, *])))
           have E6:=kI E6;(try simp only[go_sem, *,Ej,D0]);exact Agb _ _ E6 ((Wk.forget (by simp[ZF,ZE,ZEu,DX.h,GI.h,DX.h2,GI.h2,HF,FH,Hq,Hr,Bv,Ej,D0,CJ f, *])))
         have E6:=kI E6;(try simp only[go_sem, *,Ej,D0]);exact Agb _ _ E6 ((Wk.forget (by simp[ZF,ZE,ZEu,DX.h,GI.h,DX.h2,GI.h2,HF,FH,Hq,Hr,Bv,Ej,D0,CJ f, *])))
       have E6:=kI E6;(try simp only[go_sem, *,Ej,D0]);exact Agb _ _ E6 ((Wk.forget (by simp[ZF,ZE,ZEu,DX.h,GI.h,DX.h2,GI.h2,HF,FH,Hq,Hr,Bv,Ej,D0,CJ f, *])))
     have E6:=kI E6;(try simp only[go_sem, *,Ej,D0]);exact Agb _ _ E6 ((Wk.forget (by simp[ZF,ZE,ZEu,DX.h,GI.h,DX.h2,GI.h2,HF,FH,Hq,Hr,Bv,Ej,D0,CJ f, *])))
   have E6:=kI E6;(try simp only[go_sem, *,Ej,D0]);exact Agb _ _ E6 ((Wk.forget (by simp[ZF,ZE,ZEu,DX.h,GI.h,DX.h2,GI.h2,HF,FH,Hq,Hr,Bv,Ej,D0,CJ f, *])))
 have E6:=kI E6;try simp only[go_sem, *,Ej,D0]
 exact Agb _ _ E6 ((Wk.forget (by simp[ZF,ZE,ZEu,DX.h,GI.h,DX.h2,GI.h2,HF,FH,Hq,Hr,Bv,Ej,D0,CJ f, *])))
def Abb(b:Ab)(v3:Int):Int->Option ((Int)⊕(Int⊕Bool))
 | a=>(CU b v3).bind λ Hy=>cond (a<(Hy.length:Int)) ((CU Hy a).bind λ Fj=>cond (Fj<0) (some (.inr (.inr false))) (cond ((b.length:Int)<=Fj) (some (.inr (.inr false))) (cond (Fj=v3) (some (.inr (.inr false))) (cond (0<a) ((CU Hy (i64.wrap (a - 1))).bind λ Mv=>cond (Fj<=Mv) (some (.inr (.inr false))) (some (.inl (i64.wrap (a+1))))) (some (.inl (i64.wrap (a+1)))))))) (some (.inr (.inl a)))
def Akm(e:Ab):Int->Option ((Int)⊕(Int⊕Bool))
 | a=>cond (a<(e.length:Int)) ((C9 (Abb e a) 0).bind (λ | .inl QX=>some (.inl (i64.wrap (a+1))) | .inr (b)=>some (.inr (.inr (b))))) (some (.inr (.inl a)))
def Acw(b:Ab):Option (Bool):=
 cond (24<(b.length:Int)) (some false) ((C9 (Akm b) 0).bind (λ | .inl e=>some true | .inr (a)=>some a))
theorem Bd7{f r}(a:Acw f=some r):
   Rq 109 [sD (DA f)] [] [] (bD r):=by
 refine EA func109 Aij ?_;unfold Acw at a;obtain ⟨_,a⟩ | ⟨_,a⟩:=cE a
 . obtain ⟨k,i,a⟩:=bE a;refine H2 i [0] [] (λ q=>[(3,iD q)]) (λ _=>[]) ?_;rintro l _ GS e;rw[Akm.eq_1] at GS;obtain ⟨_,GS⟩ | ⟨_,GS⟩:=cK GS
   . cases kR GS;exact zP a
   obtain ⟨g,b,GS⟩:=bK GS;refine H2 b [0,3] [] (λ q=>[(4,iD q)]) (λ _=>[]) ?_;rintro j _ FU At3;rw[Abb.eq_1] at FU;obtain ⟨_,FU,_⟩:=jK I3 FU;obtain ⟨_,FU⟩ | ⟨_,FU⟩:=cK FU
   . cases kR FU;(try dsimp only at GS);refine A ?_;exact AL (e _ _ (kI GS))
   obtain ⟨_,FU,_⟩:=jK Dl FU;obtain ⟨_,FU⟩ | ⟨_,FU⟩:=cK FU
   . obtain ⟨_,FU⟩ | ⟨_,FU⟩:=cK FU
     . obtain ⟨_,FU⟩ | ⟨_,FU⟩:=cK FU
       . obtain ⟨_,FU⟩ | ⟨_,FU⟩:=cK FU
         . exact AL (At3 _ _ (kI FU))
         obtain ⟨_,FU,_⟩:=jK Dl FU;obtain ⟨_,FU⟩ | ⟨_,FU⟩:=cK FU
         . exact AL (At3 _ _ (kI FU))
         cases kR FU;cases kR GS;exact zP a
       cases kR FU;cases kR GS;exact zP a
     cases kR FU;cases kR GS;exact zP a
   cases kR FU;cases kR GS;exact zP a
 exact zP a
def Tg(a:Ab)(b:Ad):Option (Int):=
 (Acw a).bind λ e=>cond e (cond ((b.length:Int)=(a.length:Int)) (some 0) (some 19)) (some 20)
theorem Ans{b e r}(a:Tg b e=some r):
   Rq 66 [sD (DA b),sD (Dn e)] [] [] (iD r):=by
 refine EA func66 Ap4 ?_;unfold Tg at a;refine Ec a Bd7 λ _ a=>?_;refine cP a λ _ a=>?_;refine cP a λ _ a=>?_;exact zP a
def PA(b:Ad)(a:Su):Int->Option ((Int)⊕(Int⊕Bool))
 | H3=>cond (H3<(i64.wrap (a.base+a.Ei))) ((CU b H3).bind λ P1=>cond P1 (some (.inr (.inr false))) (some (.inl (i64.wrap (H3+1))))) (some (.inr (.inl H3)))
def FP(f:Nt)(b:Ad)(g:Int):Option (Bool):=
 (CU f.CV g).bind λ a=>(CU b a.PK).bind λ j=>cond j (some false) ((CU b a.out).bind λ Ir=>cond Ir (some false) ((C9 (PA b a) a.base).bind (λ | .inl i=>some true | .inr (e)=>some e)))
theorem Jd{e f g r}(a:FP e f g=some r):
   Rq 68 [.agg e.c,sD (Dn f),iD g] [] [] (bD r):=by
 refine EA func68 Ap2 ?_;unfold FP at a;obtain ⟨_,a,_⟩:=jE Ex a;obtain ⟨_,a,_⟩:=jE DZ a;obtain ⟨_,a⟩ | ⟨_,a⟩:=cE a
 . obtain ⟨_,a,_⟩:=jE DZ a;obtain ⟨_,a⟩ | ⟨_,a⟩:=cE a
   . obtain ⟨i,b,a⟩:=bE a;refine H2 b [1,7] [7] (λ q=>[(8,iD q)]) (λ _=>[]) ?_;rintro H3 _ GV Axi;rw[PA.eq_1] at GV;obtain ⟨_,GV⟩ | ⟨_,GV⟩:=cK GV
     . cases kR GV;exact zP a
     obtain ⟨_,GV,_⟩:=jK DZ GV;obtain ⟨_,GV⟩ | ⟨_,GV⟩:=cK GV
     . exact AL (Axi _ _ (kI GV))
     cases kR GV;exact zP a
   exact zP a
 exact zP a
def Xe(e:Aa)(f:Int):Int×Int->Option ((Int×Int)⊕((Int×Int)))
 | (a,b)=>cond (a<(e.length:Int)) ((CU e a).bind λ OT=>cond (OT=f) (some (.inl ((i64.wrap (a+1)),(i64.wrap (b - 1))))) (some (.inl ((i64.wrap (a+1)),b)))) (some (.inr (a,b)))
def Io(b:Nt)(f:Ad)(g:Aa)(a:Int):Option (Int):=
 (CU b.CV a).bind λ e=>cond e.Fw ((FP b f a).bind λ i=>cond i ((C9 (Xe g a) (0,e.Ei)).bind (λ (v24,Ls)=>some (if Ls<0 then 0 else Ls))) (some 0)) (some 0)
theorem PE{e f g i r}(a:Io e f g i=some r):
   Rq 206 [.agg e.c,sD (Dn f),sD (CT g),iD i] [] [] (iD r):=by
 refine EA func206 Ayb ?_;unfold Io at a;obtain ⟨_,a,_⟩:=jE Ex a;refine cP a λ _ a=>?_;refine Ec a Jd λ _ a=>?_;refine cP a λ _ a=>?_;obtain ⟨j,b,a⟩:=bE a;refine H2 b [2,3] [] (λ q=>[(9,iD q.2),(10,iD q.1)]) (λ _=>[]) ?_;rintro ⟨k,l⟩ _ EE Adl;rw[Xe.eq_1] at EE;obtain ⟨_,EE⟩ | ⟨_,EE⟩:=cK EE
 . cases kR EE;exact zP a
 obtain ⟨_,EE,_⟩:=jK Dl EE;obtain ⟨_,EE⟩ | ⟨_,EE⟩:=cK EE
 . exact AL (Adl _ _ (kI EE))
 exact AL (Adl _ _ (kI EE))
def Vq(e:Nt)(f:Ad)(Ls:Int):Aa×Int->Option ((Aa×Int)⊕((Aa×Int)))
 | (Mw,QX)=>cond (QX<(e.CV.length:Int)) ((CU Mw Ls).bind λ a=>cond (a=(-1)) ((Io e f Mw QX).bind λ b=>cond (0<b) (some (.inl ((Mw.set Ls.toNat QX),(i64.wrap (QX+1))))) (some (.inl (Mw,(i64.wrap (QX+1)))))) (some (.inr (Mw,QX)))) (some (.inr (Mw,QX)))
def Vp(b:Nt)(e:Ad):Aa×Int->Option ((Aa×Int)⊕((Aa×Int)))
 | (a,Ls)=>cond (Ls<(a.length:Int)) ((C9 (Vq b e Ls) (a,0)).bind (λ (v50,v51)=>some (.inl (v50,(i64.wrap (Ls+1)))))) (some (.inr (a,Ls)))
def Vo(e:Nt)(f:Ad)(g:Aa):Aa×Int->Option ((Aa×Int)⊕((Aa×Int)))
 | (F4,Hu)=>cond (Hu<(F4.length:Int)) ((CU F4 Hu).bind λ b=>cond (b=(-1)) ((CU g Hu).bind λ a=>cond (0<=a) ((Io e f F4 a).bind λ Ud=>cond (0<Ud) (some (.inl ((F4.set Hu.toNat a),(i64.wrap (Hu+1))))) (some (.inl (F4,(i64.wrap (Hu+1)))))) (some (.inl (F4,(i64.wrap (Hu+1)))))) (some (.inl (F4,(i64.wrap (Hu+1)))))) (some (.inr (F4,Hu)))
def Vn(e:Nt)(f:Ad)(g:Aa)(i:Aa):Aa×Int->Option ((Aa×Int)⊕((Aa×Int)))
 | (b,a)=>cond (a<(b.length:Int)) ((CU b a).bind λ Se=>(CU g a).bind λ Aft=>cond (Aft=(-2)) ((CU (b.set a.toNat (-1)) a).bind λ Bqx=>some (.inl (((b.set a.toNat (-1)).set a.toNat (-2)),(i64.wrap (a+1))))) ((CU i a).bind λ Sy=>cond (0<=Sy) ((FP e f Sy).bind λ OX=>cond OX ((CU (b.set a.toNat (-1)) a).bind λ Bqz=>some (.inl (((b.set a.toNat (-1)).set a.toNat Sy),(i64.wrap (a+1))))) (some (.inl ((b.set a.toNat (-1)),(i64.wrap (a+1)))))) (some (.inl ((b.set a.toNat (-1)),(i64.wrap (a+1))))))) (some (.inr (b,a)))
def K6(b:Nt)(e:Ad)(a:Aa)(f:Aa):Option Aa:=
 cond (a.length<10000000) ((C9 (Vn b e a f) ((List.replicate a.length 0),0)).bind (λ (Br6,Bnp)=>(C9 (Vo b e a) (Br6,0)).bind (λ (Bnn,Bxm)=>(C9 (Vp b e) (Bnn,0)).bind (λ (Bxi,v218)=>some Bxi)))) none
theorem Ac1{n o p s r}(a:K6 n o p s=some r):
   Rq 209 [.agg n.c,sD (Dn o),sD (CT p),sD (CT s)] [] [] (sD (CT r)):=by
 refine EA func209 Ay8 ?_;unfold K6 at a;obtain ⟨t,a⟩:=gE a;refine He t ?_;obtain ⟨y,g,a⟩:=bE a;refine H2 g [1,2,3,4] [4] (λ q=>[(9,rD 16 q.1),(10,iD q.2)]) (λ q=>[(16,.arr 3 1 (CT q.1))]) ?_;rintro ⟨z,B⟩ _ Hw b;rw[Vn.eq_1] at Hw;obtain ⟨_,Hw⟩ | ⟨_,Hw⟩:=cK Hw
 . cases kR Hw;obtain ⟨u,i,a⟩:=bE a;refine H2 i [1,2,4] [4] (λ q=>[(9,rD 16 q.1),(11,iD q.2)]) (λ q=>[(16,.arr 3 1 (CT q.1))]) ?_;rintro ⟨F4,Hu⟩ _ DQ XE;rw[Vo.eq_1] at DQ;obtain ⟨_,DQ⟩ | ⟨_,DQ⟩:=cK DQ
   . cases kR DQ;obtain ⟨v,j,a⟩:=bE a;refine H2 j [1,4] [4] (λ q=>[(9,rD 16 q.1),(12,iD q.2)]) (λ q=>[(16,.arr 3 1 (CT q.1))]) ?_;rintro ⟨x,Ls⟩ _ EW Agc;rw[Vp.eq_1] at EW;obtain ⟨_,EW⟩ | ⟨_,EW⟩:=cK EW
     . cases kR EW;exact zP a
     obtain ⟨w,k,EW⟩:=bK EW;refine H2 k [1,4,12] [4] (λ q=>[(9,rD 16 q.1),(13,iD q.2)]) (λ q=>[(16,.arr 3 1 (CT q.1))]) ?_;rintro ⟨Mw,QX⟩ _ D6 Aaw;rw[Vq.eq_1] at D6;obtain ⟨_,D6⟩ | ⟨_,D6⟩:=cK D6
     . cases kR D6;exact AL (Agc _ _ (kI EW))
     obtain ⟨_,D6,_⟩:=jK Dl D6;obtain ⟨_,D6⟩ | ⟨_,D6⟩:=cK D6
     . cases kR D6;(try dsimp only at EW);refine A ?_;exact AL (Agc _ _ (kI EW))
     obtain ⟨_,l,D6⟩:=bK D6;refine A ?_;refine CcB (PE l) ?_;obtain ⟨_,D6⟩ | ⟨_,D6⟩:=cK D6
     . exact AL (Aaw _ _ (kI D6))
     exact AL (Aaw _ _ (kI D6))
   refine Dd [0,0,0,0,0,0,0,0,0,0,0,0,0,0,0,0,0,0,0,0,2,0,0] ?_;obtain ⟨_,DQ,_⟩:=jK Dl DQ;obtain ⟨_,DQ⟩ | ⟨_,DQ⟩:=cK DQ
   . exact AL (XE _ _ (kI DQ))
   obtain ⟨_,DQ,_⟩:=jK Dl DQ;obtain ⟨_,DQ⟩ | ⟨_,DQ⟩:=cK DQ
   . exact AL (XE _ _ (kI DQ))
   obtain ⟨_,m,DQ⟩:=bK DQ;refine A ?_;refine GhB (PE m) ?_;obtain ⟨_,DQ⟩ | ⟨_,DQ⟩:=cK DQ
   . exact AL (XE _ _ (kI DQ))
   exact AL (XE _ _ (kI DQ))
 obtain ⟨_,Hw,_⟩:=jK Dl Hw;obtain ⟨_,Hw,_⟩:=jK Dl Hw;obtain ⟨_,Hw⟩ | ⟨_,Hw⟩:=cK Hw
 . refine Dd [0,0,0,0,0,0,0,0,0,0,0,0,2,0] ?_;obtain ⟨_,Hw,_⟩:=jK Dl Hw;obtain ⟨_,Hw⟩ | ⟨_,Hw⟩:=cK Hw
   . exact AL (b _ _ (kI Hw))
   refine Sc Hw Jd λ _ Hw=>?_;obtain ⟨_,Hw⟩ | ⟨_,Hw⟩:=cK Hw
   . exact AL (b _ _ (kI Hw))
   obtain ⟨_,Hw,_,e,_⟩:=jK Dl Hw;have _:=sl e;exact AL (b _ _ (kI Hw))
 obtain ⟨_,Hw,_,f,_⟩:=jK Dl Hw;have _:=sl f;exact AL (b _ _ (kI Hw))
def Ac0(b:Ao)(f:Ad)(g:Int):Int->Option ((Int)⊕(Int⊕Int))
 | a=>cond (a<(b.length:Int)) ((CU b a).bind λ e=>cond (e.state=0) ((CU f a).bind λ Jb=>cond Jb (some (.inr (.inr ((a:Int))))) (cond (g<=e.over) (some (.inr (.inr (((-1):Int))))) (some (.inl (i64.wrap (a+1)))))) (some (.inl (i64.wrap (a+1))))) (some (.inr (.inl a)))
def P9(b:Ao)(e:Ad)(f:Int):Option (Int):=
 (C9 (Ac0 b e f) 0).bind (λ | .inl g=>some (-1) | .inr (a)=>some a)
theorem Amy{e f g r}(a:P9 e f g=some r):
   Rq 147 [sD (DF e),sD (Dn f),iD g] [] [] (iD r):=by
 refine EA func147 Azo ?_;unfold P9 at a;obtain ⟨j,i,a⟩:=bE a;refine H2 i [0,1,2] [] (λ q=>[(7,iD q)]) (λ _=>[]) ?_;rintro k _ EL b;rw[Ac0.eq_1] at EL;obtain ⟨_,EL⟩ | ⟨_,EL⟩:=cK EL
 . cases kR EL;exact zP a
 obtain ⟨_,EL,_⟩:=jK EG EL;obtain ⟨_,EL⟩ | ⟨_,EL⟩:=cK EL
 . exact AL (b _ _ (kI EL))
 obtain ⟨_,EL,_⟩:=jK DZ EL;obtain ⟨_,EL⟩ | ⟨_,EL⟩:=cK EL
 . obtain ⟨_,EL⟩ | ⟨_,EL⟩:=cK EL
   . exact AL (b _ _ (kI EL))
   cases kR EL;exact zP a
 cases kR EL;exact zP a
def ZO(a:Int):Ao×Int->Option ((Ao×Int)⊕((Ao×Int)))
 | (I9,F4)=>cond (F4<a) ((CU I9 F4).bind λ I4=>cond (I4.state=0) (some (.inl ((I9.set F4.toNat {I4 with over:=(i64.wrap (I4.over+1))}),(i64.wrap (F4+1))))) (some (.inl (I9,(i64.wrap (F4+1)))))) (some (.inr (I9,F4)))
def NZ(b:Ao)(a:Int)(f:Int):Option Ao:=
 cond (b.length<10000000) ((CU b a).bind λ e=>(CU (b.set a.toNat {e with state:=1}) a).bind λ g=>(C9 (ZO a) (((b.set a.toNat {e with state:=1}).set a.toNat {g with CZ:=f}),0)).bind (λ (RZ,YP)=>some RZ)) none
theorem Ag1{e f g r}(a:NZ e f g=some r):
   Rq 148 [sD (DF e),iD f,iD g] [] [(0,.arr 229 5 (DF r))] (rD 0 r):=by
 refine EA func148 Azn ?_;unfold NZ at a;obtain ⟨i,a⟩:=gE a;refine He i ?_;obtain ⟨_,a,_⟩:=jE EG a;obtain ⟨_,a,_,k,_⟩:=jE EG a;have _:=sl k;obtain ⟨j,b,a⟩:=bE a;refine H2 b [1] [] (λ q=>[(7,rD 10 q.1),(8,iD q.2)]) (λ q=>[(10,.arr 229 5 (DF q.1))]) ?_;rintro ⟨I9,F4⟩ _ FE Al5;rw[ZO.eq_1] at FE;obtain ⟨_,FE⟩ | ⟨_,FE⟩:=cK FE
 . cases kR FE;exact zO a
 obtain ⟨_,FE,_⟩:=jK EG FE;obtain ⟨_,FE⟩ | ⟨_,FE⟩:=cK FE
 . exact AL (Al5 _ _ (kI FE))
 exact AL (Al5 _ _ (kI FE))
end Go.Am
end
noncomputable section
namespace Go.Am
open Go Go.Proofs
open Go.IntKind (i64)
open Tryz
open Classical in noncomputable def u_r03_Valid_v (a:Nt):Option Bool:=if smallN a then some (decide (validN a)) else none
set_option maxRecDepth 100000
set_option linter.unusedVariables false
set_option linter.unusedSimpArgs false
set_option maxHeartbeats 2000000
theorem F8{b r}(a:u_r03_Valid_v b=some r):C4 prog 35 [.agg b.c] [] λ h d=>h=[]/\d=bD r:=by
 unfold u_r03_Valid_v at a;split at a
 . rename_i e;obtain rfl:=Bf a;have:=Ah0 b e;exact this
 . cases a
def Fa(a:KP):Option (Bool):=
 cond (a.state=0) (some true) (some (decide (a.state=1)))
theorem GK{b r}(a:Fa b=some r):
   Rq 135 [.agg b.c] [] [] (bD r):=by
 refine EA func135 Azy ?_;unfold Fa at a;refine cP a λ _ a=>?_;exact zP a
def Xc(g:Ag):Int×Int×Int×Int->Option ((Int×Int×Int×Int)⊕((Int×Int×Int×Int)))
 | (b,e,f,a)=>cond (a<(g.length:Int)) ((CU g a).bind λ I8=>cond (I8.state=3) ((Fa I8).bind λ RW=>cond RW (cond I8.Fc (some (.inl (b,(i64.wrap (e+1)),f,(i64.wrap (a+1))))) (some (.inl (b,(i64.wrap (e+1)),(i64.wrap (f+1)),(i64.wrap (a+1)))))) (some (.inl (b,e,f,(i64.wrap (a+1)))))) ((Fa I8).bind λ RX=>cond RX (cond I8.Fc (some (.inl ((i64.wrap (b+1)),(i64.wrap (e+1)),f,(i64.wrap (a+1))))) (some (.inl ((i64.wrap (b+1)),(i64.wrap (e+1)),(i64.wrap (f+1)),(i64.wrap (a+1)))))) (some (.inl ((i64.wrap (b+1)),e,f,(i64.wrap (a+1))))))) (some (.inr (b,e,f,a)))
def FA(a:Ag):Option (Int×Int×Int):=
 (C9 (Xc a) (0,0,0,0)).bind (λ (v28,J9,v30,v31)=>some (v28,J9,v30))
theorem HS{e r}(a:FA e=some r):
   Rq 113 [sD (Ed e)] [] [] (.Em [iD r.1,iD r.2.1,iD r.2.2]):=by
 refine EA func113 Bai ?_;unfold FA at a;obtain ⟨f,b,a⟩:=bE a;refine H2 b [0] [] (λ q=>[(5,iD q.1),(6,iD q.2.1),(7,iD q.2.2.1),(8,iD q.2.2.2)]) (λ _=>[]) ?_;rintro ⟨g,i,j,k⟩ _ EZ MP;rw[Xc.eq_1] at EZ;obtain ⟨_,EZ⟩ | ⟨_,EZ⟩:=cK EZ
 . cases kR EZ;exact zP a
 obtain ⟨_,EZ,_⟩:=jK Db EZ;obtain ⟨_,EZ⟩ | ⟨_,EZ⟩:=cK EZ
 . refine Fy EZ GK λ _ EZ=>?_;obtain ⟨_,EZ⟩ | ⟨_,EZ⟩:=cK EZ
   . exact AL (MP _ _ (kI EZ))
   obtain ⟨_,EZ⟩ | ⟨_,EZ⟩:=cK EZ
   . exact AL (MP _ _ (kI EZ))
   exact AL (MP _ _ (kI EZ))
 refine Fy EZ GK λ _ EZ=>?_;obtain ⟨_,EZ⟩ | ⟨_,EZ⟩:=cK EZ
 . exact AL (MP _ _ (kI EZ))
 obtain ⟨_,EZ⟩ | ⟨_,EZ⟩:=cK EZ
 . exact AL (MP _ _ (kI EZ))
 exact AL (MP _ _ (kI EZ))
def Pe(e:Ag):Aa×Int->Option ((Aa×Int)⊕((Aa×Int)))
 | (a,b)=>cond (b<(e.length:Int)) ((CU e b).bind λ Lq=>(Fa Lq).bind λ Hy=>cond Hy (cond (a.length+1<10000000) (some (.inl ((a++[Lq.Ev]),(i64.wrap (b+1))))) none) (cond (a.length+1<10000000) (some (.inl ((a++[(-2)]),(i64.wrap (b+1))))) none)) (some (.inr (a,b)))
def Kg(a:Ag):Option Aa:=
 (C9 (Pe a) ([],0)).bind (λ (O8,v24)=>some O8)
theorem Vm{e r}(b:Kg e=some r):
   Rq 207 [sD (Ed e)] [] [(0,.arr 3 1 (CT r))] (rD 0 r):=by
 refine EA func207 Aya ?_;unfold Kg at b;obtain ⟨j,i,b⟩:=bE b;refine A ?_;refine EX i (λ q=>⟨[(0,sD (Ed e)),(3,rD 26 q.1),(4,iD q.2)],[(26,.arr 3 1 (CT q.1))],28⟩) ((Wk.nil (t:=3) (q:=26) (sz:=1) 3 rfl rfl AV).trans WL) ?_;rintro ⟨k,l⟩ _ Ip a;rw[Pe.eq_1] at Ip;obtain ⟨_,Ip⟩ | ⟨_,Ip⟩:=cK Ip
 . cases kR Ip;exact zO b
 obtain ⟨_,Ip,_⟩:=jK Db Ip;refine Fy Ip GK λ _ Ip=>?_;obtain ⟨_,Ip⟩ | ⟨_,Ip⟩:=cK Ip
 . obtain ⟨f,Ip⟩:=gK Ip;refine He f ?_;exact AL (a _ _ (kI Ip))
 obtain ⟨g,Ip⟩:=gK Ip;refine He g ?_;exact AL (a _ _ (kI Ip))
def KB(b:Nt)(e:Int):Option (Int):=
 (CU b.CV e).bind λ a=>some (i64.wrap ((i64.wrap (a.base+a.Ei)) - 1))
theorem Ph{b e r}(a:KB b e=some r):
   Rq 188 [.agg b.c,iD e] [] [] (iD r):=by
 refine EA func188 Ayo ?_;unfold KB at a;refine Dd [0,0,0,0,0,0,0,0,0,0,0,0,0,0,0] ?_;obtain ⟨_,a,_⟩:=jE Ex a;exact zP a
def SN(b:Nt):Int×Int->Option ((Int×Int)⊕((Int×Int)))
 | (e,a)=>cond (a<(b.CV.length:Int)) ((CU b.CV a).bind λ G3=>some (.inl ((i64.wrap (e+G3.Ei)),(i64.wrap (a+1))))) (some (.inr (e,a)))
def Fp(a:Nt):Option (Int):=
 (C9 (SN a) ((a.blocks.length:Int),0)).bind (λ (Hu,H3)=>some Hu)
theorem IE{b r}(a:Fp b=some r):
   Rq 38 [.agg b.c] [] [] (iD r):=by
 refine EA func38 Ap8 ?_;unfold Fp at a;obtain ⟨f,e,a⟩:=bE a;refine H2 e [1] [1] (λ q=>[(3,iD q.1),(4,iD q.2)]) (λ _=>[]) ?_;rintro ⟨g,i⟩ _ EU Y9;rw[SN.eq_1] at EU;obtain ⟨_,EU⟩ | ⟨_,EU⟩:=cK EU
 . cases kR EU;exact zP a
 obtain ⟨_,EU,_⟩:=jK Ex EU;exact AL (Y9 _ _ (kI EU))
def Jy(a:Nt)(b:Int):Option (Int):=
 (u_r03_Valid_v a).bind λ e=>cond e (cond (b<0) (some 19) ((Fp a).bind λ f=>cond (f<=b) (some 19) (some 0))) (some 20)
theorem SJ{b e r}(a:Jy b e=some r):
   Rq 180 [.agg b.c,iD e] [] [] (iD r):=by
 refine EA func180 Ayw ?_;unfold Jy at a;refine Ec a F8 λ _ a=>?_;refine cP a λ _ a=>?_;obtain ⟨_,a⟩ | ⟨_,a⟩:=cE a
 . refine Ec a IE λ _ a=>?_;refine cP a λ _ a=>?_;exact zP a
 exact zP a
def Vh(b:Nt)(e:Int):Aa×Int->Option ((Aa×Int)⊕((Aa×Int)))
 | (a,I9)=>cond (I9<(b.CV.length:Int)) ((CU b.CV I9).bind λ RX=>cond (RX.PK=e) (cond (a.length+1<10000000) (some (.inl ((a++[RX.base]),(i64.wrap (I9+1))))) none) (some (.inl (a,(i64.wrap (I9+1)))))) (some (.inr (a,I9)))
def KZ(a:Nt)(b:Int):Option Aa:=
 (Fo a b).bind λ (x1,x2)=>cond (0<=x1) ((KB a x1).bind λ OV=>cond (b=OV) ((CU a.CV x1).bind λ OS=>some [OS.out]) (some [(i64.wrap (b+1))])) ((CU a.next b).bind λ e=>cond (e.length<10000000) ((C9 (Vh a b) (e,0)).bind (λ (RZ,YP)=>some RZ)) none)
theorem Abt{f g r}(a:KZ f g=some r):
   Rq 181 [.agg f.c,iD g] [] [] (sD (CT r)):=by
 refine EA func181 Ayv ?_;unfold KZ at a;refine Ec a F7 ?_;rintro ⟨_,_⟩ a;obtain ⟨_,a⟩ | ⟨_,a⟩:=cE a
 . obtain ⟨_,a,_⟩:=jE I3 a;obtain ⟨i,a⟩:=gE a;refine He i ?_;obtain ⟨j,e,a⟩:=bE a;refine H2 e [1,2] [2] (λ q=>[(7,rD 37 q.1),(8,iD q.2)]) (λ q=>[(37,.arr 3 1 (CT q.1))]) ?_;rintro ⟨k,I9⟩ _ EP Aax;rw[Vh.eq_1] at EP;obtain ⟨_,EP⟩ | ⟨_,EP⟩:=cK EP
   . cases kR EP;exact zP a
   obtain ⟨_,EP,_⟩:=jK Ex EP;obtain ⟨_,EP⟩ | ⟨_,EP⟩:=cK EP
   . exact AL (Aax _ _ (kI EP))
   obtain ⟨b,EP⟩:=gK EP;refine He b ?_;exact AL (Aax _ _ (kI EP))
 refine Ec a Ph λ _ a=>?_;refine cP a λ _ a=>?_;obtain ⟨_,a,_⟩:=jE Ex a;exact zP a
def JA(a:Nt)(b:Int)(e:Int):Option (Bool):=
 (Jy a b).bind λ f=>cond (f=0) ((Jy a e).bind λ g=>cond (g=0) ((KZ a b).bind λ i=>(HJ i e).bind λ j=>some j) (some false)) (some false)
theorem S2{b e f r}(a:JA b e f=some r):
   Rq 132 [.agg b.c,iD e,iD f] [] [] (bD r):=by
 refine EA func132 Ba1 ?_;unfold JA at a;refine Ec a SJ λ _ a=>?_;refine cP a λ _ a=>?_;refine Ec a SJ λ _ a=>?_;refine cP a λ _ a=>?_;refine Ec a Abt λ _ a=>?_;refine Ec a Ml λ _ a=>?_;exact zP a
def M8(a:Ab)(b:Ad)(OT:Ad):Int->Option ((Int)⊕(Int⊕(Bool×Int)))
 | Mx=>cond (Mx<(a.length:Int)) ((CU b Mx).bind λ RV=>cond RV (some (.inl (i64.wrap (Mx+1)))) ((CU OT Mx).bind λ Nj=>cond Nj (some (.inl (i64.wrap (Mx+1)))) (some (.inr (.inr (((false,0):Bool×Int))))))) (some (.inr (.inl Mx)))
def R4(b:Ab)(e:Ad):Int×Int->Option ((Int×Int)⊕((Int×Int)⊕(Bool×Int)))
 | (g,a)=>cond (a<(b.length:Int)) ((CU e a).bind λ Jb=>cond Jb (some (.inl (g,(i64.wrap (a+1))))) ((MG b e a).bind λ OT=>(C9 (M8 b e OT) 0).bind (λ | .inl i=>some (.inl ((i64.wrap (g+1)),(i64.wrap (a+1)))) | .inr (f)=>some (.inr (.inr (f)))))) (some (.inr (.inl (g,a))))
def Jf(e:Ab)(f:Ad):Option (Bool×Int):=
 (Tg e f).bind λ g=>cond (g=0) ((C9 (R4 e f) (0,0)).bind (λ | .inl (b,i)=>some (decide (0<b),0) | .inr (a)=>some a)) (some (false,g))
theorem YT{e f r}(a:Jf e f=some r):
   Rq 162 [sD (DA e),sD (Dn f)] [] [] (.Em [bD r.1,iD r.2]):=by
 refine EA func162 Aze ?_;unfold Jf at a;refine Ec a Ans λ _ a=>?_;refine cP a λ _ a=>?_;obtain ⟨k,g,a⟩:=bE a;refine H2 g [0,1] [] (λ q=>[(7,iD q.1),(8,iD q.2)]) (λ _=>[]) ?_;rintro ⟨n,m⟩ _ FD b;rw[R4.eq_1] at FD;obtain ⟨_,FD⟩ | ⟨_,FD⟩:=cK FD
 . cases kR FD;exact zP a
 obtain ⟨_,FD,_⟩:=jK DZ FD;obtain ⟨_,FD⟩ | ⟨_,FD⟩:=cK FD
 . obtain ⟨_,i,FD⟩:=bK FD;refine A ?_;refine YA (Rk e f m _ i) ?_;obtain ⟨l,j,FD⟩:=bK FD;refine H2 j [0,1,7,8,9] [] (λ q=>[(10,iD q)]) (λ _=>[]) ?_;rintro Mx _ Hn Bk2;rw[M8.eq_1] at Hn;obtain ⟨_,Hn⟩ | ⟨_,Hn⟩:=cK Hn
   . cases kR Hn;exact AL (b _ _ (kI FD))
   obtain ⟨_,Hn,_⟩:=jK DZ Hn;obtain ⟨_,Hn⟩ | ⟨_,Hn⟩:=cK Hn
   . obtain ⟨_,Hn,_⟩:=jK DZ Hn;obtain ⟨_,Hn⟩ | ⟨_,Hn⟩:=cK Hn
     . cases kR Hn;cases kR FD;exact zP a
     exact AL (Bk2 _ _ (kI Hn))
   exact AL (Bk2 _ _ (kI Hn))
 exact AL (b _ _ (kI FD))
def SI(e:Nt)(f:Ad):Int×Int->Option ((Int×Int)⊕((Int×Int)))
 | (b,a)=>cond (a<(e.CV.length:Int)) ((CU e.CV a).bind λ G3=>cond G3.Fw ((FP e f a).bind λ Jt=>cond Jt (some (.inl ((i64.wrap (b+G3.Ei)),(i64.wrap (a+1))))) (some (.inl (b,(i64.wrap (a+1)))))) (some (.inl (b,(i64.wrap (a+1)))))) (some (.inr (b,a)))
def IK(a:Nt)(b:Ad):Option (Int):=
 (C9 (SI a b) (0,0)).bind (λ (M7,v20)=>some M7)
theorem R3{b e r}(a:IK b e=some r):
   Rq 37 [.agg b.c,sD (Dn e)] [] [] (iD r):=by
 refine EA func37 Ap9 ?_;unfold IK at a;obtain ⟨g,f,a⟩:=bE a;refine H2 f [1,2] [2] (λ q=>[(5,iD q.1),(6,iD q.2)]) (λ _=>[]) ?_;rintro ⟨i,j⟩ _ EU Y9;rw[SI.eq_1] at EU;obtain ⟨_,EU⟩ | ⟨_,EU⟩:=cK EU
 . cases kR EU;exact zP a
 obtain ⟨_,EU,_⟩:=jK Ex EU;obtain ⟨_,EU⟩ | ⟨_,EU⟩:=cK EU
 . exact AL (Y9 _ _ (kI EU))
 refine Fy EU Jd λ _ EU=>?_;obtain ⟨_,EU⟩ | ⟨_,EU⟩:=cK EU
 . exact AL (Y9 _ _ (kI EU))
 exact AL (Y9 _ _ (kI EU))
def G6(a:Nt)(b:Ad)(e:Int):Option (Bool):=
 cond (0<=0/\0<=(a.blocks.length:Int)/\(a.blocks.length:Int)<=(b.length:Int)) ((Jf a.next (b.take a.blocks.length)).bind λ (x3,x4)=>cond x3 ((IK a b).bind λ f=>some (decide (e<=f))) (some false)) none
theorem Jh{e b f r}(a:G6 e b f=some r):
   Rq 114 [.agg e.c,sD (Dn b),iD f] [] [] (bD r):=by
 refine EA func114 Bah ?_;unfold G6 at a;refine Dd [0,0,0,0,0,0,0,2,0,0,0,0,0] ?_;obtain ⟨g,a⟩:=gE a;have _:=Bg g;try simp only[go_sem, *,Jn b]
 refine FO a YT ?_;rintro ⟨_,_⟩ a;refine cP a λ _ a=>?_;refine Ec a R3 λ _ a=>?_;exact zP a
def KY(a:Ad)(b:Int):Option Ad:=
 cond (a.length<10000000) ((CU a b).bind λ e=>some (a.set b.toNat true)) none
theorem Abs{b e r}(a:KY b e=some r):
   Rq 224 [sD (Dn b),iD e] [] [] (sD (Dn r)):=by
 refine EA func224 Ay1 ?_;unfold KY at a;obtain ⟨f,a⟩:=gE a;refine He f ?_;obtain ⟨_,a,_⟩:=jE DZ a;exact zP a
def La(e:Nt)(a:Ad)(b:Int)(f:Int):Option (Bool):=
 (CU a b).bind λ g=>cond g (some false) ((KY a b).bind λ i=>(G6 e i f).bind λ j=>some j)
theorem Ac5{b e f g r}(a:La b e f g=some r):
   Rq 204 [.agg b.c,sD (Dn e),iD f,iD g] [] [] (bD r):=by
 refine EA func204 Ayd ?_;unfold La at a;refine Hx [0,10,20,30,40,50,60,70,80,100,92,112,120,130] ?_;obtain ⟨_,a,_⟩:=jE DZ a;obtain ⟨_,a⟩ | ⟨_,a⟩:=cE a
 . refine FO a Abs λ _ a=>?_;refine FO a Jh λ _ a=>?_;exact zP a
 exact zP a
abbrev Aw:=List U7
def Kz(a:Aw)(b:U7):Option Aw:=
 cond (6<(a.length:Int)) (some []) (cond (a.length<10000000) (cond ((a.length:Int)<6) (cond (a.length+1<10000000) (some (a++[b])) none) (some a)) none)
theorem Pf{b e r}(a:Kz b e=some r):
   Rq 100 [sD (Eu b),.agg e.c] [] [] (sD (Eu r)):=by
 refine EA func100 Baq ?_;unfold Kz at a;obtain ⟨_,a⟩ | ⟨_,a⟩:=cE a
 . obtain ⟨f,a⟩:=gE a;refine He f ?_;refine cP a λ _ a=>?_;obtain ⟨g,a⟩:=gE a;refine He g ?_;exact zP a
 exact zP a
def Kw(a:Aw)(b:Int):Option (Bool):=
 cond ((a.length:Int)<=6) (cond (0<=b) (some (decide (b<(a.length:Int)))) (some false)) (some false)
theorem Vg{b e r}(a:Kw b e=some r):
   Rq 125 [sD (Eu b),iD e] [] [] (bD r):=by
 refine EA func125 Ba8 ?_;unfold Kw at a;refine cP a λ _ a=>?_;refine cP a λ _ a=>?_;exact zP a
def K9(a:Aw)(b:Int):Option (U7×Aw×Bool):=
 (Kw a b).bind λ e=>cond e ((CU a b).bind λ f=>cond (0<=0/\0<=b/\b<=(a.length:Int)) (cond (0<=(i64.wrap (b+1))/\(i64.wrap (b+1))<=(a.length:Int)/\(a.length:Int)<=(a.length:Int)) (cond ((a.take b.toNat).length<10000000) (cond ((a.take b.toNat).length+((a.take a.length).drop (Int.toNat (i64.wrap (b+1)))).length<10000000) (some (f,((a.take b.toNat)++((a.take a.length).drop (Int.toNat (i64.wrap (b+1))))),true)) none) none) none) none) (some ((⟨0,0,0,0,0⟩:U7),[],false))
theorem N7{b i r}(a:K9 b i=some r):
   Rq 79 [sD (Eu b),iD i] [] [] (.Em [.agg r.1.c,sD (Eu r.2.1),bD r.2.2]):=by
 refine EA func79 Bfq ?_;unfold K9 at a;refine Ec a Vg λ _ a=>?_;refine cP a λ _ a=>?_;refine Ey [] [0,10,20,30,40,50,60,80,90,100,110,72,122,132,140,150] ?_;obtain ⟨_,a,_⟩:=jE Oz a;obtain ⟨j,a⟩:=gE a;have _:=Bg j;obtain ⟨e,a⟩:=gE a;have _:=Bg e;obtain ⟨f,a⟩:=gE a;try simp only[go_sem, *,QM b]
 refine An f ?_;obtain ⟨g,a⟩:=gE a;try simp only[go_sem, *,QM b]
 refine An g ?_;exact zP a
def KA(a:Aw)(b:Int):Option (Aw×Bool):=
 (K9 a b).bind λ (x1,x2,x3)=>some (x2,x3)
theorem Pg{b e r}(a:KA b e=some r):
   Rq 83 [sD (Eu b),iD e] [] [] (.Em [sD (Eu r.1),bD r.2]):=by
 refine EA func83 Bfn ?_;unfold KA at a;refine Ec a N7 ?_;rintro ⟨_,_,_⟩ a;exact zP a
def ME(a:Aw)(b:Int):Option (Aw×Bool):=
 (Kw a b).bind λ e=>cond e ((CU a b).bind λ f=>(Kz a f).bind λ g=>some (g,true)) (some ([],false))
theorem Rb{b e r}(a:ME b e=some r):
   Rq 84 [sD (Eu b),iD e] [] [] (.Em [sD (Eu r.1),bD r.2]):=by
 refine EA func84 Bfm ?_;unfold ME at a;refine Ec a Vg λ _ a=>?_;refine cP a λ _ a=>?_;obtain ⟨_,a,_⟩:=jE Oz a;refine Ec a Pf λ _ a=>?_;exact zP a
def Fm(a:O6):Option (Bool):=
 cond (a.cell=(-1)) (some false) (cond (a.Ff=(-1)) (cond a.Qe (some false) (some (!a.H5))) (some false))
theorem Hg{b r}(a:Fm b=some r):
   Rq 116 [.agg b.c] [] [] (bD r):=by
 refine EA func116 Bag ?_;unfold Fm at a;obtain ⟨_,a⟩ | ⟨_,a⟩:=cE a
 . refine cP a λ _ a=>?_;refine cP a λ _ a=>?_;exact zP a
 exact zP a
def Jc(f:Nt)(a:O6)(b:Int)(e:Int):Option (O6×Bool):=
 cond (b=0) (some ((⟨e,(-1),false,false⟩:O6),!(!decide (a.cell=(-1))))) (cond (b=1) ((Fm a).bind λ Hy=>cond Hy ((JA f a.cell e).bind λ RX=>some (({a with Ff:=e}:O6),RX)) (some (({a with Ff:=e}:O6),false))) (cond (b=2) (cond (a.cell=(-1)) (some ((⟨a.Ff,(-1),a.Qe,a.H5⟩:O6),false)) (cond (a.Ff=(-1)) (some ((⟨a.Ff,(-1),a.Qe,a.H5⟩:O6),false)) (some ((⟨a.Ff,(-1),a.Qe,a.H5⟩:O6),!a.H5)))) (cond (b=3) ((Fm a).bind λ Lq=>some (({a with Qe:=true}:O6),Lq)) (cond (b=4) (cond (a.cell=(-1)) (some (({a with Qe:=false}:O6),false)) (cond a.Qe (some (({a with Qe:=false}:O6),!a.H5)) (some (({a with Qe:=false}:O6),false)))) (cond (b=5) (some (({a with H5:=true}:O6),!decide (a.cell=(-1)))) (cond (a.cell=(-1)) (some ((⟨(-1),(-1),false,false⟩:O6),false)) ((Fm a).bind λ g=>cond g (some ((⟨(-1),(-1),false,false⟩:O6),true)) (some ((⟨(-1),(-1),false,false⟩:O6),a.H5)))))))))
theorem YS{b e f g r}(a:Jc b e f g=some r):
   Rq 195 [.agg b.c,.agg e.c,iD f,iD g] [] [] (.Em [.agg r.1.c,bD r.2]):=by
 refine EA func195 Ayh ?_;unfold Jc at a;obtain ⟨_,a⟩ | ⟨_,a⟩:=cE a
 . obtain ⟨_,a⟩ | ⟨_,a⟩:=cE a
   . obtain ⟨_,a⟩ | ⟨_,a⟩:=cE a
     . obtain ⟨_,a⟩ | ⟨_,a⟩:=cE a
       . obtain ⟨_,a⟩ | ⟨_,a⟩:=cE a
         . obtain ⟨_,a⟩ | ⟨_,a⟩:=cE a
           . refine C5 [5] [0,0,0,0,2,0,0,0,0,0,2,0] ?_;obtain ⟨_,a⟩ | ⟨_,a⟩:=cE a
             . refine FO a Hg λ _ a=>?_;refine cP a λ _ a=>?_;exact zP a
             exact zP a
           exact zP a
         obtain ⟨_,a⟩ | ⟨_,a⟩:=cE a
         . refine cP a λ _ a=>?_;exact zP a
         exact zP a
       refine Ec a Hg λ _ a=>?_;exact zP a
     obtain ⟨_,a⟩ | ⟨_,a⟩:=cE a
     . refine cP a λ _ a=>?_;exact zP a
     exact zP a
   refine Ec a Hg λ _ a=>?_;refine cP a λ _ a=>?_;refine Ec a S2 λ _ a=>?_;exact zP a
 exact zP a
abbrev Ax:=List O6
def Xo(f:Nt)(a:Ax)(b:Int)(g:Int)(e:Int):Option (Ax×Int):=
 cond (b<0) (some ([],19)) (cond ((a.length:Int)<=b) (some ([],19)) (cond (e<0) (some ([],19)) (cond (48<=e) (some ([],19)) ((CU a b).bind λ i=>(Jc f i g e).bind λ (x9,Ir)=>cond Ir (cond (a.length<10000000) (some ((a.set b.toNat x9),0)) none) (some ([],24))))))
theorem Awm{e f g i j r}(a:Xo e f g i j=some r):
   Rq 153 [.agg e.c,sD (Ek f),iD g,iD i,iD j] [] [] (.Em [sD (Ek r.1),iD r.2]):=by
 refine EA func153 Azj ?_;unfold Xo at a;obtain ⟨k,a⟩ | ⟨k,a⟩:=cE a
 . obtain ⟨_,a⟩ | ⟨_,a⟩:=cE a
   . obtain ⟨_,a⟩ | ⟨_,a⟩:=cE a
     . obtain ⟨_,a⟩ | ⟨_,a⟩:=cE a
       . refine Ey [5] [0,10,20,30,40,50,60,111,72,80,90,100,122,130] ?_;obtain ⟨_,a,_⟩:=jE TT a;refine FO a YS ?_;rintro ⟨_,_⟩ a;refine cP a λ _ a=>?_;obtain ⟨b,a⟩:=gE a;refine He b ?_;exact zP a
       exact zP a
     exact zP a
   exact zP a
 exact zP a
end Go.Am
end
noncomputable section
namespace Go.Am
open Go Go.Proofs
open Go.IntKind (i64)
open Tryz
set_option maxRecDepth 100000
set_option linter.unusedVariables false
set_option linter.unusedSimpArgs false
set_option maxHeartbeats 2000000
def JX(a:Int):Option (Bool):=
 cond (a=1) (some true) (cond (a=2) (some true) (some (decide (a=3))))
theorem Aat{b r}(a:JX b=some r):
   Rq 178 [iD b] [] [] (bD r):=by
 refine EA func178 Ayy ?_;unfold JX at a;obtain ⟨_,a⟩ | ⟨_,a⟩:=cE a
 . refine cP a λ _ a=>?_;exact zP a
 exact zP a
def IJ(a:U7):Option (Bool):=
 (JX a.kind).bind λ b=>cond b (cond (a.CZ<0) (some false) (cond (8<=a.CZ) (some false) (cond (a.seq<1) (some false) (cond (a.cell<0) (some false) (cond (48<=a.cell) (some false) (cond (a.flag<0) (some false) (cond (2<a.flag) (some false) (cond (a.kind=1) (some (decide (a.flag<=1))) (cond (a.kind=2) (some (decide (1<=a.flag))) (some (decide (a.cell=0)))))))))))) (some false)
theorem R2{b r}(a:IJ b=some r):
   Rq 126 [.agg b.c] [] [] (bD r):=by
 refine EA func126 Ba7 ?_;unfold IJ at a;refine Ec a Aat λ _ a=>?_;refine cP a λ _ a=>?_;obtain ⟨_,a⟩ | ⟨_,a⟩:=cE a
 . obtain ⟨_,a⟩ | ⟨_,a⟩:=cE a
   . obtain ⟨_,a⟩ | ⟨_,a⟩:=cE a
     . obtain ⟨_,a⟩ | ⟨_,a⟩:=cE a
       . obtain ⟨_,a⟩ | ⟨_,a⟩:=cE a
         . obtain ⟨_,a⟩ | ⟨_,a⟩:=cE a
           . obtain ⟨_,a⟩ | ⟨_,a⟩:=cE a
             . obtain ⟨_,a⟩ | ⟨_,a⟩:=cE a
               . refine cP a λ _ a=>?_;exact zP a
               exact zP a
             exact zP a
           exact zP a
         exact zP a
       exact zP a
     exact zP a
   exact zP a
 exact zP a
def Mk(a:Int)(b:Int):Option (Bool):=
 some (decide (a<b))
theorem Aas{a b r}(e:Mk a b=some r):
   Rq 127 [.p (.int .u64 a),.p (.int .u64 b)] [] [] (bD r):=by
 refine EA func127 Ba6 ?_;unfold Mk at e;exact zP e
def Qb(a:WR)(e:Int)(b:U7):Option (WR×Aw):=
 (IJ b).bind λ f=>cond f (cond (b.CZ=e) (cond (b.kind=1) ((Mk a.last b.seq).bind λ Ir=>cond Ir (some ((⟨b.seq,b.cell,decide (b.flag=1),0,0⟩:WR),[(⟨3,e,b.seq,0,0⟩:U7)])) (some (a,[(⟨3,e,b.seq,0,0⟩:U7)]))) (cond (b.kind=3) (cond (a.Ix=0) (some (a,[])) (cond (b.seq=a.last) (cond (b.flag=a.Ix) (some (({a with Ix:=0,cell:=0}:WR),[])) (some (a,[]))) (some (a,[])))) (some (a,[])))) (some (a,[]))) (some (a,[]))
theorem An1{b e f r}(a:Qb b e f=some r):
   Rq 80 [.agg b.c,iD e,.agg f.c] [] [] (.Em [.agg r.1.c,sD (Eu r.2)]):=by
 refine EA func80 Bfp ?_;unfold Qb at a;refine Ec a R2 λ _ a=>?_;refine cP a λ _ a=>?_;refine cP a λ _ a=>?_;obtain ⟨_,a⟩ | ⟨_,a⟩:=cE a
 . refine cP a λ _ a=>?_;obtain ⟨_,a⟩ | ⟨_,a⟩:=cE a
   . refine cP a λ _ a=>?_;refine cP a λ _ a=>?_;exact zP a
   exact zP a
 refine Ec a Aas λ _ a=>?_;obtain ⟨_,a⟩ | ⟨_,a⟩:=cE a
 . refine C5 [3,5] [0,0,0,0,0,1,2,0] ?_;exact zP a
 refine C5 [3,5] [0,0,0,0,0,1,2,0] ?_;exact zP a
def Hk(a:WR)(b:Int):Option Aw:=
 some [(⟨2,b,a.last,a.cell,a.Ix⟩:U7)]
theorem Jx{a b r}(e:Hk a b=some r):
   Rq 131 [.agg a.c,iD b] [] [] (sD (Eu r)):=by
 refine EA func131 Ba2 ?_;unfold Hk at e;exact zP e
def N6(a:WR)(b:Int)(e:O6):Option Aw:=
 cond (a.Ix=0) (some []) (cond e.H5 (some []) ((Hk a b).bind λ f=>some f))
theorem Aka{b e f r}(a:N6 b e f=some r):
   Rq 86 [.agg b.c,iD e,.agg f.c] [] [] (sD (Eu r)):=by
 refine EA func86 Bfk ?_;unfold N6 at a;obtain ⟨_,a⟩ | ⟨_,a⟩:=cE a
 . obtain ⟨_,a⟩ | ⟨_,a⟩:=cE a
   . refine Ec a Jx λ _ a=>?_;exact zP a
   exact zP a
 exact zP a
def Jg(f:Nt)(b:WR)(e:Int)(a:O6):Option (WR×O6×Aw):=
 cond (a.cell=(-1)) (some (b,a,[])) (cond a.H5 (some (b,({a with H5:=true}:O6),[])) (cond (a.Ff=(-1)) ((Fm ({a with H5:=false}:O6)).bind λ j=>cond j (cond (b.Ff=(-1)) (some (b,({a with H5:=false}:O6),[])) ((JA f a.cell b.Ff).bind λ Lq=>cond Lq (some (b,(⟨a.cell,b.Ff,a.Qe,false⟩:O6),[])) (some (b,({a with H5:=false}:O6),[])))) (some (b,({a with H5:=false}:O6),[]))) (cond a.Qe ((Hk (⟨b.last,(-1),b.serve,1,a.Ff⟩:WR) e).bind λ i=>some ((⟨b.last,(-1),b.serve,1,a.Ff⟩:WR),(⟨a.Ff,(-1),true,false⟩:O6),i)) ((Hk (⟨b.last,(-1),b.serve,1,a.Ff⟩:WR) e).bind λ g=>some ((⟨b.last,(-1),b.serve,1,a.Ff⟩:WR),(⟨a.Ff,(-1),b.serve,false⟩:O6),g)))))
theorem Xn{b e f g r}(a:Jg b e f g=some r):
   Rq 87 [.agg b.c,.agg e.c,iD f,.agg g.c] [] [] (.Em [.agg r.1.c,.agg r.2.1.c,sD (Eu r.2.2)]):=by
 refine EA func87 Bfj ?_;unfold Jg at a;obtain ⟨_,a⟩ | ⟨_,a⟩:=cE a
 . obtain ⟨_,a⟩ | ⟨_,a⟩:=cE a
   . obtain ⟨_,a⟩ | ⟨_,a⟩:=cE a
     . obtain ⟨_,a⟩ | ⟨_,a⟩:=cE a
       . refine C5 [7] [0,0,0,2,0,3] ?_;refine C5 [5,7] [0,0,0,0,2,2,2,0] ?_;refine FO a Jx λ _ a=>?_;exact zP a
       refine C5 [7] [0,0,0,2,0,3] ?_;refine C5 [5,7] [0,0,0,0,2,2,2,0] ?_;refine FO a Jx λ _ a=>?_;exact zP a
     refine Ec a Hg λ _ a=>?_;obtain ⟨_,a⟩ | ⟨_,a⟩:=cE a
     . refine C5 [5,7] [0,0,2,2,0] ?_;exact zP a
     obtain ⟨_,a⟩ | ⟨_,a⟩:=cE a
     . refine Ec a S2 λ _ a=>?_;obtain ⟨_,a⟩ | ⟨_,a⟩:=cE a
       . refine C5 [5,7] [0,0,2,2,0] ?_;exact zP a
       refine C5 [5,7] [0,0,2,2,0] ?_;exact zP a
     refine C5 [5,7] [0,0,2,2,0] ?_;exact zP a
   refine C5 [5,7] [0,0,2,2,0] ?_;exact zP a
 refine C5 [5,7] [0,0,2,2,0] ?_;exact zP a
def N5(b:WR)(e:Int)(a:O6):Option (WR×O6×Aw):=
 cond (a.cell=(-1)) (some (b,a,[])) (cond a.Qe (cond a.H5 (some (b,(⟨a.cell,a.Ff,true,true⟩:O6),[])) ((Hk ({b with Ix:=2,cell:=a.cell}:WR) e).bind λ f=>some (({b with Ix:=2,cell:=a.cell}:WR),(⟨a.cell,a.Ff,false,false⟩:O6),f))) (some (b,({a with Qe:=false}:O6),[])))
theorem Ac4{b e f r}(a:N5 b e f=some r):
   Rq 89 [.agg b.c,iD e,.agg f.c] [] [] (.Em [.agg r.1.c,.agg r.2.1.c,sD (Eu r.2.2)]):=by
 refine EA func89 Bfi ?_;unfold N5 at a;obtain ⟨_,a⟩ | ⟨_,a⟩:=cE a
 . obtain ⟨_,a⟩ | ⟨_,a⟩:=cE a
   . refine C5 [3,5] [0,0,2,2,0] ?_;exact zP a
   obtain ⟨_,a⟩ | ⟨_,a⟩:=cE a
   . refine C5 [5] [0,0,0,2,0,3] ?_;refine C5 [3,5] [0,0,0,0,2,2,2,0] ?_;refine FO a Jx λ _ a=>?_;exact zP a
   refine C5 [3,5] [0,0,2,2,0] ?_;exact zP a
 refine C5 [3,5] [0,0,2,2,0] ?_;exact zP a
def Ah6(f:Nt)(e:Int):Aa×Int->Option ((Aa×Int)⊕((Aa×Int)))
 | (b,a)=>cond (0<=e) ((CU f.CV e).bind λ Jb=>cond (a<(i64.wrap (Jb.base+Jb.Ei))) (cond (b.length+1<10000000) (some (.inl ((b++[a]),(i64.wrap (a+1))))) none) (some (.inr (b,a)))) (some (.inr (b,a)))
def K2(a:Nt)(b:Int):Option Aa:=
 (Fo a b).bind λ (x1,x2)=>(C9 (Ah6 a x1) ([],(i64.wrap (b+1)))).bind (λ (v20,v21)=>some v20)
theorem NT{b i r}(a:K2 b i=some r):
   Rq 72 [.agg b.c,iD i] [] [] (sD (CT r)):=by
 refine EA func72 Bfw ?_;unfold K2 at a;refine Ec a F7 ?_;rintro ⟨k,_⟩ a;obtain ⟨j,f,a⟩:=bE a;refine A ?_;refine EX f (λ q=>⟨[(2,.ptr 2 0),(5,iD k),(7,rD 41 q.1),(8,iD q.2)],[(2,.box b.c),(41,.arr 3 1 (CT q.1))],43⟩) ((Wk.nil (t:=7) (q:=41) (sz:=1) 3 rfl rfl AV).trans WL) ?_;rintro ⟨l,m⟩ _ FD g;rw[Ah6.eq_1] at FD;refine Dd [0,0,0,0,0,0,0,0,0,0,0,0,0,0,0,0,0,0,0] ?_;obtain ⟨_,FD⟩ | ⟨_,FD⟩:=cK FD
 . cases kR FD;exact zP a
 obtain ⟨_,FD,_⟩:=jK Ex FD;obtain ⟨_,FD⟩ | ⟨_,FD⟩:=cK FD
 . cases kR FD;(try dsimp only at a);refine A ?_;exact zP a
 obtain ⟨e,FD⟩:=gK FD;refine He e ?_;exact AL (g _ _ (kI FD))
def K3(a:Nt)(b:Int):Option (Int):=
 cond (b<0) (some (-1)) ((Fo a b).bind λ (x2,x3)=>cond (0<=x2) ((CU a.CV x2).bind λ e=>cond e.Fw (some x2) (some (-1))) (some (-1)))
theorem NU{b e r}(a:K3 b e=some r):
   Rq 71 [.agg b.c,iD e] [] [] (iD r):=by
 refine EA func71 Bfx ?_;unfold K3 at a;obtain ⟨_,a⟩ | ⟨_,a⟩:=cE a
 . refine Ec a F7 ?_;rintro ⟨_,_⟩ a;refine cP a λ _ a=>?_;obtain ⟨_,a,_⟩:=jE Ex a;refine cP a λ _ a=>?_;exact zP a
 exact zP a
def IL(a:KP):Option (Int):=
 cond (a.Ff=(-1)) (some a.cell) (some a.Ff)
theorem Kx{b r}(a:IL b=some r):
   Rq 190 [.agg b.c] [] [] (iD r):=by
 refine EA func190 Aym ?_;unfold IL at a;refine cP a λ _ a=>?_;exact zP a
def Ky(a:KP)(b:Int):Option (U7):=
 cond a.DH (some (⟨1,b,a.seq,a.Ff,1⟩:U7)) (some (⟨1,b,a.seq,a.Ff,0⟩:U7))
theorem Pb{b e r}(a:Ky b e=some r):
   Rq 130 [.agg b.c,iD e] [] [] (.agg r.c):=by
 refine EA func130 Ba3 ?_;unfold Ky at a;refine cP a λ _ a=>?_;exact zP a
abbrev Ak:=List Ety
def HE(a:DX)(b:Int)(e:Int)(f:Int):Option Ak:=
 cond (a.CP.length+1<10000000) (some (a.CP++[(⟨0,b,e,f⟩:Ety)])) none
theorem Gl{b e f g r}(a:HE b e f g=some r):
   Rq 121 [.ptr 1000000 0,iD e,iD f,iD g] (DX.h b) (DX.h ({b with CP:=r})) (.Em []):=by
 refine EA func121 Aig ?_;unfold HE at a;obtain ⟨i,a⟩:=gE a;refine He i ?_;exact zO a
def RE(b:DX)(a:Int):Option (Ag×Ak):=
 (CU b.CO a).bind λ e=>(CU (b.CO.set a.toNat {e with state:=3}) a).bind λ f=>(HE {b with CO:=(b.CO.set a.toNat {e with state:=3}).set a.toNat {f with Ev:=(-2)}} 8 a 0).bind λ Ir=>some (((b.CO.set a.toNat {e with state:=3}).set a.toNat {f with Ev:=(-2)}),Ir)
theorem Zr{b e r}(a:RE b e=some r):
   Rq 142 [.ptr 1000000 0,iD e] (DX.h b) (DX.h ({b with CO:=r.1,CP:=r.2})) (.Em []):=by
 refine EA func142 Azs ?_;unfold RE at a;obtain ⟨_,a,_⟩:=jE Db a;obtain ⟨_,a,_,f,_⟩:=jE Db a;have _:=sl f;refine Ec a Gl λ _ a=>?_;exact zO a
def G2(a:DX)(b:Int):Option (Aa×Ab×Ag×Ak):=
 (LQ (⟨a.CQ,a.CR⟩:KM) b).bind λ (x1,x2,x3)=>cond (x3=0) ((CU a.CO b).bind λ e=>(HE {a with CQ:=x1.CQ,CR:=x1.CR,CO:=a.CO.set b.toNat {e with wait:=0}} 10 b x2).bind λ Ir=>some (x1.CQ,x1.CR,(a.CO.set b.toNat {e with wait:=0}),Ir)) (some (a.CQ,a.CR,a.CO,a.CP))
theorem H0{b e r}(a:G2 b e=some r):
   Rq 140 [.ptr 1000000 0,iD e] (DX.h b) (DX.h ({b with CQ:=r.1,CR:=r.2.1,CO:=r.2.2.1,CP:=r.2.2.2})) (.Em []):=by
 refine EA func140 Aif ?_;unfold G2 at a;refine Ec a Xk ?_;rintro ⟨_,_,_⟩ a;refine cO a λ _ a=>?_;obtain ⟨_,a,_⟩:=jE Db a;refine Ec a Gl λ _ a=>?_;exact zO a
def Ms(b:DX)(a:KP):Option (Int):=
 cond (a.Dx=3) (some a.Ev) (cond (a.Dx=1) (cond (0<=a.DY) ((CU b.CS a.DY).bind λ G3=>some G3.pick) (cond (a.Dx=2) (some (-1)) (some (-1)))) (cond (a.Dx=2) (cond (0<=a.DY) ((CU b.CS a.DY).bind λ e=>some e.drop) (some (-1))) (some (-1))))
theorem JF{b e r}(a:Ms b e=some r):
   Rq 149 [.ptr 1000000 0,.agg e.c] (DX.h b) (DX.h b) (iD r):=by
 refine EA func149 Aid ?_;unfold Ms at a;obtain ⟨_,a⟩ | ⟨_,a⟩:=cE a
 . obtain ⟨_,a⟩ | ⟨_,a⟩:=cE a
   . refine cO a λ _ a=>?_;refine cO a λ _ a=>?_;refine Dd [0,0,0,0,0,0,0,0,0,0,0] ?_;obtain ⟨_,a,_⟩:=jE EG a;exact zO a
   obtain ⟨_,a⟩ | ⟨_,a⟩:=cE a
   . refine cO a λ _ a=>?_;exact zO a
   refine Dd [0,0,0,0,0,0,0,0,0,0,0] ?_;obtain ⟨_,a,_⟩:=jE EG a;exact zO a
 exact zO a
def Af8(e:DX)(b:KP):Int->Option ((Int)⊕(Int⊕Bool))
 | a=>cond (a<(b.De.length:Int)) ((CU b.De a).bind λ Hy=>(CU e.closed Hy).bind λ I4=>cond I4 (some (.inr (.inr true))) (some (.inl (i64.wrap (a+1))))) (some (.inr (.inl a)))
def JG(a:DX)(b:KP):Option (Bool):=
 (C9 (Af8 a b) 0).bind (λ | .inl RZ=>(Ms a b).bind λ Nr=>cond ((b.De.length:Int)=0) (cond (0<=Nr) ((IL b).bind λ OS=>(KB (⟨a.blocks,a.next,a.CV,a.C8,a.cq,a.ca,a.cd,a.cp⟩:Nt) Nr).bind λ KR=>some (!decide (OS=KR))) (some false)) (some false) | .inr (e)=>some e)
theorem Hc{b f r}(a:JG b f=some r):
   Rq 184 [.ptr 1000000 0,.agg f.c] (DX.h b) (DX.h b) (bD r):=by
 refine EA func184 Ays ?_;unfold JG at a;obtain ⟨i,g,a⟩:=bE a;refine H2 g [0,3] [3] (λ q=>[(5,iD q)]) (λ _=>DX.h b) ?_;rintro j _ EL e;rw[Af8.eq_1] at EL;obtain ⟨_,EL⟩ | ⟨_,EL⟩:=cK EL
 . cases kR EL;refine Ec a JF λ _ a=>?_;refine Hx [0,10,20,30,40,50,60,70,80,90,110,120,130,140,150,102,162,170,180,190] ?_;refine cO a λ _ a=>?_;refine cO a λ _ a=>?_;refine FO a Kx λ _ a=>?_;refine FO a Ph λ _ a=>?_;exact zO a
 refine Dd [0,0,0,0,0,0,0,0,0,0,0,0,0] ?_;obtain ⟨_,EL,_⟩:=jK Dl EL;obtain ⟨_,EL,_⟩:=jK DZ EL;obtain ⟨_,EL⟩ | ⟨_,EL⟩:=cK EL
 . exact AL (e _ _ (kI EL))
 cases kR EL;exact zO a
def NO(a:DX)(b:KP):Option (Int×Bool):=
 cond (b.state=1) (cond (b.Dx=0) (cond (b.Ff=(-1)) ((K3 (⟨a.blocks,a.next,a.CV,a.C8,a.cq,a.ca,a.cd,a.cp⟩:Nt) b.cell).bind λ e=>cond (0<=e) ((KB (⟨a.blocks,a.next,a.CV,a.C8,a.cq,a.ca,a.cd,a.cp⟩:Nt) e).bind λ f=>some (e,decide (b.cell=f))) (some (e,false))) (some ((-1),false))) (some ((-1),false))) (some ((-1),false))
theorem Aqg{b e r}(a:NO b e=some r):
   Rq 143 [.ptr 1000000 0,.agg e.c] (DX.h b) (DX.h b) (.Em [iD r.1,bD r.2]):=by
 refine EA func143 Aie ?_;unfold NO at a;refine cO a λ _ a=>?_;refine cO a λ _ a=>?_;refine cO a λ _ a=>?_;refine Dd [0,0,0,0,0,0,2,0] ?_;refine FO a NU λ _ a=>?_;refine Dd [0,0,0,0,0,0,0,0,0,0,0,2,0,0,0,0] ?_;refine cO a λ _ a=>?_;refine FO a Ph λ _ a=>?_;exact zO a
def UJ(a:DX):Option Ad:=
 (E0 (⟨a.closed,a.Dp,a.C0⟩:Me)).bind λ b=>some b
theorem Aj6{b r}(a:UJ b=some r):
   Rq 115 [.ptr 1000000 0] (DX.h b) (DX.h b) (sD (Dn r)):=by
 refine EA func115 Aih ?_;unfold UJ at a;refine Ec a FN λ _ a=>?_;exact zP a
def TX(a:DX):Option (Bool):=
 (FA a.CO).bind λ (x1,x2,x3)=>(UJ a).bind λ b=>(G6 (⟨a.blocks,a.next,a.CV,a.C8,a.cq,a.ca,a.cd,a.cp⟩:Nt) b x2).bind λ e=>cond e (some (decide (0<x3))) (some false)
theorem Aty{b r}(a:TX b=some r):
   Rq 73 [.ptr 1000000 0] (DX.h b) (DX.h b) (bD r):=by
 refine EA func73 Ap1 ?_;unfold TX at a;obtain ⟨⟨_,_,_⟩,e,a⟩:=bE a;refine A ?_;refine CcB (HS e) ?_;refine Hx [0,10,20,30,40,60,52,72,80,90,100,110,120] ?_;refine FO a Aj6 λ _ a=>?_;refine FO a Jh λ _ a=>?_;refine cO a λ _ a=>?_;exact zO a
def WC(e:DX)(b:Su):Int->Option ((Int)⊕(Int⊕Bool))
 | a=>cond (a<(i64.wrap (b.base+b.Ei))) ((CU e.closed a).bind λ RW=>cond RW (some (.inr (.inr false))) (some (.inl (i64.wrap (a+1))))) (some (.inr (.inl a)))
def QN(a:DX)(g:Int):Option (Bool):=
 (CU a.CV g).bind λ b=>(LN (⟨a.blocks,a.next,a.CV,a.C8,a.cq,a.ca,a.cd,a.cp⟩:Nt) (⟨a.closed,a.Dp,a.C0⟩:Me)).bind λ f=>(C9 (WC a b) b.base).bind (λ | .inl J9=>(CU f b.PK).bind λ Mv=>cond Mv ((CU f b.out).bind λ NH=>some NH) (some false) | .inr (e)=>some e)
theorem Apy{b f r}(a:QN b f=some r):
   Rq 210 [.ptr 1000000 0,iD f] (DX.h b) (DX.h b) (bD r):=by
 refine EA func210 Ay7 ?_;unfold QN at a;refine Ey [1000000] [0,10,20,30,40,50,60,70,80,90,100,110,120,130,140,150,160,181,172,192,200] ?_;obtain ⟨_,a,_⟩:=jE Ex a;refine FO a Xf λ _ a=>?_;obtain ⟨g,e,a⟩:=bE a;refine H2 e [0,5,6] [5] (λ q=>[(7,iD q)]) (λ _=>DX.h b) ?_;rintro i _ EZ MP;rw[WC.eq_1] at EZ;obtain ⟨_,EZ⟩ | ⟨_,EZ⟩:=cK EZ
 . cases kR EZ;obtain ⟨_,a,_⟩:=jE DZ a;refine cO a λ _ a=>?_;obtain ⟨_,a,_⟩:=jE DZ a;exact zO a
 obtain ⟨_,EZ,_⟩:=jK DZ EZ;obtain ⟨_,EZ⟩ | ⟨_,EZ⟩:=cK EZ
 . exact AL (MP _ _ (kI EZ))
 cases kR EZ;exact zO a
def Aj8(b:DX)(e:Int):Int->Option ((Int)⊕(Int⊕Bool))
 | a=>cond (a<(b.CV.length:Int)) ((CU b.CS e).bind λ f=>(NL f a).bind λ Lq=>cond Lq ((QN b a).bind λ Jt=>cond Jt (some (.inl (i64.wrap (a+1)))) (some (.inr (.inr true)))) (some (.inl (i64.wrap (a+1))))) (some (.inr (.inl a)))
def QQ(b:DX)(e:Int):Option (Bool):=
 (C9 (Aj8 b e) 0).bind (λ | .inl M7=>some false | .inr (a)=>some a)
theorem WD{e f r}(a:QQ e f=some r):
   Rq 183 [.ptr 1000000 0,iD f] (DX.h e) (DX.h e) (bD r):=by
 refine EA func183 Ayt ?_;unfold QQ at a;obtain ⟨i,g,a⟩:=bE a;refine H2 g [0,1] [] (λ q=>[(5,iD q)]) (λ _=>DX.h e) ?_;rintro j _ EL b;rw[Aj8.eq_1] at EL;obtain ⟨_,EL⟩ | ⟨_,EL⟩:=cK EL
 . cases kR EL;exact zO a
 obtain ⟨_,EL,_⟩:=jK EG EL;refine Fy EL ZP λ _ EL=>?_;obtain ⟨_,EL⟩ | ⟨_,EL⟩:=cK EL
 . exact AL (b _ _ (kI EL))
 refine Fy EL Apy λ _ EL=>?_;obtain ⟨_,EL⟩ | ⟨_,EL⟩:=cK EL
 . cases kR EL;exact zO a
 exact AL (b _ _ (kI EL))
def Aq7(a:DX)(Ir:Aa):Int->Option ((Int)⊕(Int⊕Bool))
 | I9=>cond (I9<(Ir.length:Int)) ((CU Ir I9).bind λ RV=>(CU a.closed RV).bind λ KR=>cond KR (some (.inr (.inr true))) (some (.inl (i64.wrap (I9+1))))) (some (.inr (.inl I9)))
def Yi(a:DX)(b:KP):Option (Bool):=
 cond (b.state=1) ((LN (⟨a.blocks,a.next,a.CV,a.C8,a.cq,a.ca,a.cd,a.cp⟩:Nt) (⟨a.closed,a.Dp,a.C0⟩:Me)).bind λ i=>(IL b).bind λ f=>(Fo (⟨a.blocks,a.next,a.CV,a.C8,a.cq,a.ca,a.cd,a.cp⟩:Nt) f).bind λ (x6,x7)=>cond (x6<0) ((CU i f).bind λ Ue=>some (!Ue)) ((K2 (⟨a.blocks,a.next,a.CV,a.C8,a.cq,a.ca,a.cd,a.cp⟩:Nt) f).bind λ Ir=>(C9 (Aq7 a Ir) 0).bind (λ | .inl j=>cond (x6=b.Ev) (some false) ((CU a.CV x6).bind λ QW=>(CU i QW.out).bind λ g=>some (!g)) | .inr (e)=>some e))) (some false)
theorem Bb7{b f r}(a:Yi b f=some r):
   Rq 211 [.ptr 1000000 0,.agg f.c] (DX.h b) (DX.h b) (bD r):=by
 refine EA func211 Ay6 ?_;unfold Yi at a;refine cO a λ _ a=>?_;refine Hx [0,10,20,30,40,50,60,70,80,100,92,112,120,130] ?_;refine FO a Xf λ _ a=>?_;refine FO a Kx λ _ a=>?_;refine Ec a F7 ?_;rintro ⟨_,_⟩ a;obtain ⟨_,a⟩ | ⟨_,a⟩:=cE a
 . refine Ec a NT λ _ a=>?_;obtain ⟨g,e,a⟩:=bE a;refine H2 e [0,3,5,7,9] [3] (λ q=>[(10,iD q)]) (λ _=>DX.h b) ?_;rintro I9 _ EP Aax;rw[Aq7.eq_1] at EP;obtain ⟨_,EP⟩ | ⟨_,EP⟩:=cK EP
   . cases kR EP;obtain ⟨_,a⟩ | ⟨_,a⟩:=cE a
     . obtain ⟨_,a,_⟩:=jE Ex a;obtain ⟨_,a,_⟩:=jE DZ a;exact zO a
     exact zO a
   refine Dd [0,0,0,0,0,0,0,0,0,0,0,0] ?_;obtain ⟨_,EP,_⟩:=jK Dl EP;obtain ⟨_,EP,_⟩:=jK DZ EP;obtain ⟨_,EP⟩ | ⟨_,EP⟩:=cK EP
   . exact AL (Aax _ _ (kI EP))
   cases kR EP;exact zO a
 obtain ⟨_,a,_⟩:=jE DZ a;exact zO a
def Yg(e:DX):Aa×Int->Option ((Aa×Int)⊕((Aa×Int)))
 | (b,a)=>cond (a<(e.CO.length:Int)) ((CU e.CO a).bind λ G3=>(Yi e G3).bind λ I8=>cond I8 (cond (b.length+1<10000000) (some (.inl ((b++[a]),(i64.wrap (a+1))))) none) (some (.inl (b,(i64.wrap (a+1)))))) (some (.inr (b,a)))
def Iq(a:DX):Option Aa:=
 (C9 (Yg a) ([],0)).bind (λ (M7,v20)=>some M7)
theorem PU{a r}(b:Iq a=some r):
   Rq 185 [.ptr 1000000 0] (DX.h a) (DX.h a) (sD (CT r)):=by
 refine EA func185 Ayr ?_;unfold Iq at b;obtain ⟨g,f,b⟩:=bE b;refine A ?_;refine EX f (λ q=>⟨[(0,.ptr 1000000 0),(3,rD 28 q.1),(4,iD q.2)],(DX.h a++[(28,.arr 3 1 (CT q.1))]),30⟩) ((Wk.nil (t:=3) (q:=28) (sz:=1) 3 rfl rfl AV).trans WL) ?_;rintro ⟨i,j⟩ _ EU Y9;rw[Yg.eq_1] at EU;obtain ⟨_,EU⟩ | ⟨_,EU⟩:=cK EU
 . cases kR EU;exact zP b
 obtain ⟨_,EU,_⟩:=jK Db EU;refine Fy EU Bb7 λ _ EU=>?_;obtain ⟨_,EU⟩ | ⟨_,EU⟩:=cK EU
 . exact AL (Y9 _ _ (kI EU))
 obtain ⟨e,EU⟩:=gK EU;refine He e ?_;exact AL (Y9 _ _ (kI EU))
def Yj(e:DX)(b:Me):Bool×Int->Option ((Bool×Int)⊕((Bool×Int)))
 | (f,a)=>cond (a<(e.CS.length:Int)) (cond f ((QQ {e with closed:=b.closed,Dp:=b.Dp,C0:=b.C0} a).bind λ Jt=>some (.inl (!Jt,(i64.wrap (a+1))))) (some (.inl (false,(i64.wrap (a+1)))))) (some (.inr (f,a)))
def MY(a:DX)(e:Int):Option (Bool):=
 (Kh (⟨a.closed,a.Dp,a.C0⟩:Me) e (-1)).bind λ b=>(Iq {a with closed:=b.closed,Dp:=b.Dp,C0:=b.C0}).bind λ f=>(C9 (Yj a b) (decide ((f.length:Int)=0),0)).bind (λ (My,M7)=>some My)
theorem Agp{b g r}(a:MY b g=some r):
   Rq 138 [.ptr 1000000 0,iD g] (DX.h b) (DX.h b) (bD r):=by
 refine EA func138 Azv ?_;unfold MY at a;refine Ec a Q5 λ f a=>?_;refine Ec a PU λ _ a=>?_;obtain ⟨i,e,a⟩:=bE a;refine H2 e [0,5] [5] (λ q=>[(6,bD q.1),(7,iD q.2)]) (λ _=>DX.h ({b with closed:=f.closed,Dp:=f.Dp,C0:=f.C0})) ?_;rintro ⟨j,k⟩ _ EZ MP;rw[Yj.eq_1] at EZ;obtain ⟨_,EZ⟩ | ⟨_,EZ⟩:=cK EZ
 . cases kR EZ;exact zO a
 obtain ⟨_,EZ⟩ | ⟨_,EZ⟩:=cK EZ
 . exact AL (MP _ _ (kI EZ))
 refine Fy EZ WD λ _ EZ=>?_;exact AL (MP _ _ (kI EZ))
def Agu(a:DX)(i:Int):Int×Int×Bool×Int->Option ((Int×Int×Bool×Int)⊕((Int×Int×Bool×Int)))
 | (e,f,g,b)=>cond (b<(a.CO.length:Int)) ((CU a.CO b).bind λ I8=>(NO a I8).bind λ (OT,RX)=>cond RX (cond (OT=I8.Ev) (cond I8.Fc (some (.inl (e,f,g,(i64.wrap (b+1))))) (cond (i<0) (some (.inl (e,f,true,(i64.wrap (b+1))))) ((NY (⟨a.blocks,a.next,a.CV,a.C8,a.cq,a.ca,a.cd,a.cp⟩:Nt) (⟨a.closed,a.Dp,a.C0⟩:Me) I8.cell i).bind λ (OW,Nr)=>cond Nr (cond (e<0) (some (.inl (b,(OW.length:Int),true,(i64.wrap (b+1))))) (cond ((OW.length:Int)<f) (some (.inl (b,(OW.length:Int),true,(i64.wrap (b+1))))) (some (.inl (e,f,true,(i64.wrap (b+1))))))) (some (.inl (e,f,true,(i64.wrap (b+1)))))))) (some (.inl (e,f,g,(i64.wrap (b+1)))))) (some (.inl (e,f,g,(i64.wrap (b+1)))))) (some (.inr (e,f,g,b)))
def Yo(a:DX)(b:Int):Option (Int×Bool):=
 (C9 (Agu a b) ((-1),0,false,0)).bind (λ (v32,Vd,Mw,QX)=>some (v32,Mw))
def II(a:O5):Option (Int):=
 some (if (a.CY.length:Int)<(if (a.CX.length:Int)<(a.CO.length:Int) then (a.CX.length:Int) else (a.CO.length:Int)) then (a.CY.length:Int) else (if (a.CX.length:Int)<(a.CO.length:Int) then (a.CX.length:Int) else (a.CO.length:Int)))
theorem R0{a r}(b:II a=some r):
   Rq 74 [.agg [sD (CT a.CQ),sD (DA a.CR),sD (Dn a.closed),sD (CT a.Dp),sD (CT a.C0),sD (Ed a.CO),sD (DF a.CS),bD a.C7,sD (Ek a.CX),sD (ED a.CY),sD (Da a.down),sD (Da a.up)]] [] [] (iD r):=by
 refine EA func74 Bfv ?_;unfold II at b;exact zP b
end Go.Am
end
