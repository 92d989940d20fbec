/- StoryParses: Parse and Format return what the document says, for all texts and events; no condition. -/
import Derived.Test.YtlfbkkljgighkaaGreatDoorCards
import Derived.Test.YtlfbkkljgighkaaGreatDoorTie
import Derived.Deep.DeepHandedRow
import Derived.ProofKit
import Derived.JoinedCond
import Derived.Test.YtlfbkkljgighkaaGreatDoorSpJ
section
namespace Go.Proofs.YtlfbkkljgighkaaGreatDoor
open Go.Am Go.ChangeShapes Go.WideShapes Go.ChangeAt Go.RowKit
open Go.Proofs.Tryz
set_option linter.unusedVariables false
set_option maxRecDepth 100000
theorem own:ownKnob prog.godebug=none:=by kernel_rfl
mutual
theorem Bi0 {H:Type}:∀d:DataW H,L1 (FJ d)<=Rows.uptoBulk d
  | .lit (.int k n)=>by simp[FJ,L1,pdB,Rows.uptoBulk]
  | .lit (.bool b)=>by simp[FJ,L1,pdB,Rows.uptoBulk]
  | .lit (.string l)=>by simp[FJ,L1,pdB,Rows.uptoBulk]
  | .nil=>by simp[FJ,L1,pdB,Ad0,Rows.uptoBulk]
  | .slice elems spare=>by
    have:=Bmh elems;simp only[FJ,L1,pdB,Rows.uptoBulk];omega
  | .agg parts=>by
    have:=Bmi parts;simp only[FJ,Rows.uptoBulk];omega
  | .lit l=>by cases l<;>simp[FJ,L1,pdB,Rows.uptoBulk]
  | .ptr d=>by simp[FJ,L1]
  | .iface t d=>by simp[FJ,L1]
  | .map CP=>by simp[FJ,L1]
  | .held h=>by simp[FJ,L1]
theorem Bmh {H:Type}:∀es:List (DataW H),Ad0 (Ae0 es)<=Rows.uptoBulkAll es
  | []=>by simp[Ae0,Ad0]
  | d::r=>by
    have h1:=Bi0 d;have h2:=Bmh r;simp only[Ae0,Ad0,Rows.uptoBulkAll];omega
theorem Bmi {H:Type}:∀es:List (DataW H),L1 (Oo es)<=Rows.uptoBulkAll es
  | []=>by simp[Oo,L1]
  | d::r=>by
    have h1:=Bi0 d;have h2:=Bmi r;simp only[Oo,Anx,Rows.uptoBulkAll];omega
end
theorem Aqw{H:Type}(l r:List (DataW H)):Rows.uptoBulkAll (l++r)=Rows.uptoBulkAll l+Rows.uptoBulkAll r:=by
 induction l with
 | nil=>simp[Rows.uptoBulkAll]
 | cons x l a=>simp only[List.cons_append,Rows.uptoBulkAll,a];omega
theorem bound{H:Type}{l:List (DataW H)}(a:Rows.uptoSmall H l=true):Rows.uptoBulkAll l<=1048576:=of_decide_eq_true a
theorem Aqd{n:Nat}{cs:List Pd}(h:wtP prog n 23 cs):∃l:List Int,cs=[.sl (Go.Am.CT l)]:=by
 obtain ⟨m,a,rfl,Sx⟩:=Blq underlying23 h;obtain ⟨l,rfl⟩:=Avq (λ v:Int=>[Pd.int .i64 v]) a λ y e=>by
   obtain ⟨v,b,_⟩:=Ajr underlying3 (Sx y e);exact ⟨v,b⟩
 exact ⟨l,rfl⟩
theorem Aqc{α:Type}(enc:α->List Pd)(p:α->Prop):∀(es:List (List Pd)),(∀y∈es,∃x,y=enc x/\p x)->∃l:List α,es=l.map enc/\∀x∈l,p x
 | [],_=>⟨[],rfl,by simp⟩
 | y::r,h=>by
   obtain ⟨x,hx,f⟩:=h y (by simp);obtain ⟨l,e,b⟩:=Aqc enc p r λ z a=>h z (by simp[a]);refine ⟨x::l,by simp[hx,e],λ z a=>?_⟩;rcases List.mem_cons.1 a with rfl | a
   . exact f
   . exact b z a
def cellsOf:DataW Unit->List Value
  | .lit (.int k n)=>[.int k n]
  | .agg parts=>Aqr parts
  | _=>[]
where Aqr:List (DataW Unit)->List Value
  | []=>[]
  | d::r=>cellsOf d++Aqr r
noncomputable def Asx(os:Os)(Bcs:List (Nat×DataW Unit)):World:=
 let a:=World.holding prog os ⟨#[],#[],[]⟩
 {a with heap:=Bcs.foldl (λ h x=>h.modify x.1 λ
     | .cells _ t frozen=> .cells (cellsOf x.2).toArray t frozen
     | o=>o) a.heap}
end Go.Proofs.YtlfbkkljgighkaaGreatDoor
end
section
namespace Go.Proofs.YtlfbkkljgighkaaGreatDoor
open Go.Am Go.ChangeShapes Go.WideShapes Go.ChangeAt Go.RowKit
open Go.Proofs.Tryz
set_option maxRecDepth 100000
set_option linter.unusedVariables false
theorem Bkv{n:Nat}{cs:List Pd}(h:wtP prog n 22 cs):∃l:List G9,cs=[.sl (Go.Am.E5 l)]/\∀x∈l,(-9223372036854775808<=x.a/\x.a<=9223372036854775807)/\(-9223372036854775808<=x.b/\x.b<=9223372036854775807):=by
 obtain ⟨m,e,rfl,Sx⟩:=Blq underlying22 h;obtain ⟨l,rfl,q⟩:=Aqc (λ b:G9=>[Pd.int .i64 b.kind,.int .i64 b.a,.int .i64 b.b,.str b.text]) (λ x=>(-9223372036854775808<=x.a/\x.a<=9223372036854775807)/\(-9223372036854775808<=x.b/\x.b<=9223372036854775807)) e λ y r=>by
   obtain ⟨I,o⟩:=Br0 underlying49 (Sx y r);obtain ⟨t,z,rfl,f,u,B,rfl,g,v,E,rfl,i,w,H,rfl,j,rfl⟩:=o;obtain ⟨k,rfl,_⟩:=Ajr underlying3 f;obtain ⟨a,rfl,p⟩:=Ajr underlying3 g;obtain ⟨b,rfl,hb⟩:=Ajr underlying3 i;obtain ⟨s,rfl⟩:=Bcm underlying9 j;exact ⟨⟨k,a,b,s⟩,rfl,bounds_i64 p,bounds_i64 hb⟩
 exact ⟨l,rfl,q⟩
theorem Axx(l:List G9)(h:L1 [.sl (Go.Am.E5 l)]<=1048576):l.length<=2000000/\∀e∈l,e.text.length<=2000000:=by
 simp only[L1,pdB] at h;have f:=Anw (λ b:G9=>[Pd.int .i64 b.kind,.int .i64 b.a,.int .i64 b.b,.str b.text]) (λ x=>by simp only[L1,pdB];omega) l;have h2:l.length<=Ad0 (Go.Am.E5 l):=f.1;have g:∀x∈l,L1 [Pd.int .i64 x.kind,.int .i64 x.a,.int .i64 x.b,.str x.text]<=Ad0 (Go.Am.E5 l):=f.2;refine ⟨by omega,λ e j=>?_⟩;have i:=g e j;simp only[L1,pdB] at i;omega
theorem S7(H:Type)(enc:TypeId×Value->H)(W:World)(base:Nat)(args:Array Value)(ds gs:List (DataW H))(before:List MemPlace)
   (Ry:∀(j:Nat) t v,Tryz.f3.params[j]?=some t->args[j]?=some v->Value.okWide prog W .any base t v)
   (hW:DataW.Whole enc prog Tryz.f3.params.toList Rows.storyParsesSpec.vars false W args.toList ds gs before) (hk:Rows.uptoSmall H (ds++gs)=true) (hL:laidMetH prog Rows.storyParsesUptoRow.laid W):
   Calls prog 3 args W λ e W'=>∃v,e= .returned v/\Rows.storyParsesSpec.post enc prog Tryz.f3 false true false false W args v W':=by
 have Bk8:Lib.TabIs prog W "internal/strconv.uint64pow10" .u64 Lib.pow10Tab:=
   An6 (keep:=λ x=>x.1== "internal/strconv.uint64pow10") (g:=3) (t:=322) (e:=119) (n:=Lib.pow10Tab.length) hL (by kernel_rfl) (by kernel_rfl) (by kernel_rfl) (by kernel_rfl) (by kernel_rfl) (by kernel_rfl) (by kernel_rfl) (by kernel_rfl)
 have Bsy:∀(M:Nat->Mb) s m,U6 (λ b=>b<W.heap.size) W M s m (.Ew 3 J0):=λ M s m=>Bct (by kernel_rfl) (Bo2 (by kernel_rfl) Bk8) Bk8;have ht:Tryz.f3.params.toList.all (HB prog 30)=true:=by kernel_rfl
 have hb:=bound hk;rw[Aqw] at hb;obtain ⟨p,q,hA,hV,rfl,hfz,hnd⟩:=hW;obtain ⟨hl,hwt⟩:=An3 ht hA;have hl2:ds.length=4:=hl;obtain ⟨d1,d2,d3,d4,rfl⟩:∃d1 d2 d3 d4,ds=[d1,d2,d3,d4]:=by
   match ds,hl2 with
   | [d1,d2,d3,d4],_=>exact ⟨d1,d2,d3,d4,rfl⟩
 simp only[Rows.uptoBulkAll] at hb;obtain ⟨raw,h1⟩:=Bcm underlying9 (hwt 0 9 d1 rfl rfl);obtain ⟨es,h2,he⟩:=Bkv (hwt 1 22 d2 rfl rfl);obtain ⟨l,h3⟩:=Aqd (hwt 2 23 d3 rfl rfl);obtain ⟨m,h4⟩:=Aqd (hwt 3 23 d4 rfl rfl);have hb2:=Bi0 d2;rw[h2] at hb2;have Bsg:=Axx es (by omega);have j7:smE es:=⟨Bsg.1,λ e h=>⟨(he e h).1,(he e h).2,Bsg.2 e h⟩⟩;have a1:U5 prog 9 d1= .p (.str raw):=by unfold U5 Auc;rw[show Auh prog 9=false by kernel_rfl,if_neg (by decide),h1];rfl
 have a2:U5 prog 22 d2= .p (.sl (Go.Am.E5 es)):=by unfold U5 Auc;rw[show Auh prog 22=false by kernel_rfl,if_neg (by decide),h2];rfl
 have a3:U5 prog 23 d3= .p (.sl (Go.Am.CT l)):=by unfold U5 Auc;rw[show Auh prog 23=false by kernel_rfl,if_neg (by decide),h3];rfl
 have a4:U5 prog 23 d4= .p (.sl (Go.Am.CT m)):=by unfold U5 Auc;rw[show Auh prog 23=false by kernel_rfl,if_neg (by decide),h4];rfl
 refine Asw [(3,J0)] Ry ⟨p,q,hA,hV,rfl,hfz,hnd⟩ rfl ht rfl underlying4 rfl Avl (λ x hx=>by simp only[List.mem_singleton] at hx;subst hx;exact Bsy) [(1000000,.Ew 3 J0)] rfl ?_
 show C4 prog 3 [U5 prog 9 d1,U5 prog 22 d2,U5 prog 23 d3,U5 prog 23 d4] _ _
 rw[a1,a2,a3,a4];exact (Ac6 raw es l m j7).mono λ _ _ h=>h.2
theorem S6(os:Os):laidMet prog Rows.storyParsesUptoRow.laid ((Asx os [(4,Rows.laid_math_bits_deBruijn32tab),(5,Rows.laid_math_bits_deBruijn64tab),(3,Rows.laid_internal_strconv_uint64pow10),(2,Rows.laid_unicode_utf8_acceptRanges),(1,Rows.laid_unicode_utf8_first)]).forCall (λ _ _=>0) ⟨#[],#[.string ⟨#[]⟩,.slice none 0 0,.slice none 0 0,.slice none 0 0],[]⟩).memory:=
 laidMet_of_run' 8 (by kernel_rfl) (by kernel_rfl)
theorem Xq(os:Os){H:Type}(enc:TypeId×Value->H):∃places,DataW.whole enc prog ((Asx os [(4,Rows.laid_math_bits_deBruijn32tab),(5,Rows.laid_math_bits_deBruijn64tab),(3,Rows.laid_internal_strconv_uint64pow10),(2,Rows.laid_unicode_utf8_acceptRanges),(1,Rows.laid_unicode_utf8_first)]).forCall (λ _ _=>0) ⟨#[],#[.string ⟨#[]⟩,.slice none 0 0,.slice none 0 0,.slice none 0 0],[]⟩).memory Tryz.f3.params.toList Rows.storyParsesSpec.vars false (#[.string ⟨#[]⟩,.slice none 0 0,.slice none 0 0,.slice none 0 0]:Array Value).toList 8=some ([.lit (.string []),.nil,.nil,.nil],[],places):=
 ⟨[],by kernel_rfl⟩
theorem storyParses_lifted(os:Os)(started:os.Started)(H:Type)(enc:TypeId×Value->H)(F:Stop.Interp):
   ReturnsInHanded {} Tryz.checked os 3 .any ((Rows.OpenSpec.upto Rows.storyParsesSpec).preRow enc prog Tryz.f3 Rows.storyParsesUptoRow.domain false Rows.storyParsesUptoRow.laid) (((Rows.OpenSpec.upto Rows.storyParsesSpec).at F).post enc prog Tryz.f3 false true false false):=by
 obtain ⟨places,hx⟩:=Xq os enc;refine returnsInHanded_of_row (C:=Tryz.checked) (s:=Rows.OpenSpec.upto Rows.storyParsesSpec) own started (by kernel_rfl) func3
   (witness_row_at (enc:=enc) (C:=Tryz.checked) false (Asx os [(4,Rows.laid_math_bits_deBruijn32tab),(5,Rows.laid_math_bits_deBruijn64tab),(3,Rows.laid_internal_strconv_uint64pow10),(2,Rows.laid_unicode_utf8_acceptRanges),(1,Rows.laid_unicode_utf8_first)]) #[.string ⟨#[]⟩,.slice none 0 0,.slice none 0 0,.slice none 0 0] rfl (by kernel_rfl) (by kernel_rfl) (by kernel_rfl)
     (OpenSpec.preRow_of_cond 8 hx (by kernel_rfl) (λ k f=>by cases f;kernel_rfl) (by kernel_rfl) (S6 os))) ?_
 intro W base args a gs before Ry e _ Bt4 _ b _ _;exact S7 H enc W base args a gs before Ry e (Bt4 _ rfl) b
theorem storyParses_said:Rows.StoryParsesUptoSaid:=
 OpenClaim.holds_of_cond 3 Tryz.f3 rfl rfl rfl rfl rfl rfl rfl ⟨rfl,rfl,rfl,rfl,rfl⟩ rfl rfl rfl rfl rfl (by kernel_rfl) func3 (by kernel_rfl)
   (of_decide_eq_true (by kernel_rfl)) (by unfold Func.isWrapper;first | (rw[if_pos (by decide+kernel)];kernel_rfl) | (rw[if_neg (by decide+kernel)];exact ⟨rfl,rfl⟩))
   (λ os started H enc _ F=>by rw[OpenClaim.pre_eq_preRow];exact storyParses_lifted os started H enc F)
theorem Xr(f:FuncId)(fn:Func)(hf:Tryz.pinned.checked.prog.funcNamed "blockway/blockwaylaw31.StoryParses" =some f)(hfn:Tryz.pinned.checked.prog.funcs[f]?=some fn):
   true=Tryz.pinned.checked.prog.looks []/\∀(j:Nat) t,fn.params[j]?=some t->Tryz.pinned.checked.prog.wantsStandIn t=false:=by
 obtain rfl:f=3:=Option.some.inj ((show prog.funcNamed "blockway/blockwaylaw31.StoryParses" =some 3 by kernel_rfl).symm.trans hf) |>.symm;obtain rfl:fn=Tryz.f3:=(Option.some.inj (func3.symm.trans hfn)).symm;refine ⟨by kernel_rfl,λ j t ht=>?_⟩;have Fx:Tryz.f3.params.toList.all (λ t=>!Tryz.pinned.checked.prog.wantsStandIn t)=true:=by kernel_rfl
 have hm:=List.all_eq_true.1 Fx t (Array.mem_toList_iff.2 (Array.mem_of_getElem? ht))
 simpa using hm
theorem storyParses_proved:Rows.StoryParsesUptoCardSaid:=
 Claim7.holds_tied_plain_at .later [] _ _ _ _ storyParses_said (λ _ h=>by cases h) (by kernel_rfl) (λ _ h=>by cases h) storyParsesUpto_row_tie rfl ⟨rfl,rfl⟩ (by kernel_rfl) rfl Xr (by kernel_rfl)
end Go.Proofs.YtlfbkkljgighkaaGreatDoor
end
