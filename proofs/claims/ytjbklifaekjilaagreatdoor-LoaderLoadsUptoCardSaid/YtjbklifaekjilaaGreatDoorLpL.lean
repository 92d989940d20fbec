/- LoaderLoads: whatever the arguments of bulk at most 1048576, the law returns true and leaves its arguments as they were; the listed tables as the program's text lays them. -/
import Derived.Test.YtjbklifaekjilaaGreatDoorCards
import Derived.Test.YtjbklifaekjilaaGreatDoorTie
import Derived.Deep.DeepHandedRow
import Derived.ProofKit
import Derived.JoinedCond
import Derived.Test.YtjbklifaekjilaaGreatDoorLpK
section
namespace Go.Proofs.YtjbklifaekjilaaGreatDoor
open Go.Am Go.ChangeShapes Go.WideShapes Go.ChangeAt Go.RowKit
open Go.Proofs.Tryz
set_option linter.unusedVariables false
set_option maxRecDepth 100000
theorem own:ownKnob prog.godebug=none:=by kernel_rfl
theorem Aa6{H:Type}(l r:List (DataW H)):Rows.uptoBulkAll (l++r)=Rows.uptoBulkAll l+Rows.uptoBulkAll r:=by
 induction l with
 | nil=>simp[Rows.uptoBulkAll]
 | cons x l ih=>simp only[List.cons_append,Rows.uptoBulkAll,ih];omega
theorem bound{H:Type}{l:List (DataW H)}(hk:Rows.uptoSmall H l=true):Rows.uptoBulkAll l<=1048576:=of_decide_eq_true hk
theorem Ap2{n:Nat}{cs:List Pd}(h:YT prog n 22 cs):∃l:List Int,cs=[.sl (Go.Am.BZ l)]:=by
 obtain ⟨m,es,rfl,J8⟩:=Awv underlying22 h;obtain ⟨l,rfl⟩:=Ae5 (λ v:Int=>[Pd.int .i64 v]) es λ y hy=>by
   obtain ⟨v,h1,_⟩:=Tx underlying3 (J8 y hy);exact ⟨v,h1⟩
 exact ⟨l,rfl⟩
def cellsOf:DataW Unit->List Value
  | .lit (.int k n)=>[.int k n]
  | .agg parts=>Aa3 parts
  | _=>[]
where Aa3:List (DataW Unit)->List Value
  | []=>[]
  | d::r=>cellsOf d++Aa3 r
noncomputable def Abo(os:Os)(Ajw:List (Nat×DataW Unit)):World:=
 let w0:=World.holding prog os ⟨#[],#[],[]⟩
 {w0 with heap:=Ajw.foldl (λ h x=>h.modify x.1 λ
     | .cells _ t frozen=> .cells (cellsOf x.2).toArray t frozen
     | o=>o) w0.heap}
end Go.Proofs.YtjbklifaekjilaaGreatDoor
end
section
namespace Go.Proofs.YtjbklifaekjilaaGreatDoor
open Go.Am Go.ChangeShapes Go.WideShapes Go.ChangeAt Go.RowKit
open Go.Proofs.Tryz
set_option maxRecDepth 100000
set_option linter.unusedVariables false
theorem Ap3{n:Nat}{cs:List Pd}(h:YT prog n 23 cs):∃a b c d:Int,cs=[.int .i64 a,.int .i64 b,.int .i64 c,.int .i64 d]:=by
 obtain ⟨m,es,rfl,hl,J8⟩:=Aww underlying23 h;obtain ⟨u,v,w,y,rfl⟩:∃u v w y,es=[u,v,w,y]:=by
   match es,hl with
   | [u,v,w,y],_=>exact ⟨u,v,w,y,rfl⟩
 obtain ⟨x1,rfl,_⟩:=Tx underlying3 (J8 u (by simp));obtain ⟨x2,rfl,_⟩:=Tx underlying3 (J8 v (by simp));obtain ⟨x3,rfl,_⟩:=Tx underlying3 (J8 w (by simp));obtain ⟨x4,rfl,_⟩:=Tx underlying3 (J8 y (by simp));exact ⟨x1,x2,x3,x4,rfl⟩
theorem Nd(H:Type)(enc:TypeId×Value->H)(W:World)(base:Nat)(args:Array Value)(ds gs:List (DataW H))(before:List MemPlace)
   (IN:∀(j:Nat) t v,Tryz.f3.params[j]?=some t->args[j]?=some v->Value.okWide prog W .any base t v)
   (hW:DataW.Whole enc prog Tryz.f3.params.toList Rows.loaderLoadsSpec.vars false W args.toList ds gs before) (hk:Rows.uptoSmall H (ds++gs)=true):
   Calls prog 3 args W λ e W'=>∃v,e= .returned v/\Rows.loaderLoadsSpec.post enc prog Tryz.f3 false true false false W args v W':=by
 have ht:Tryz.f3.params.toList.all (EF prog 30)=true:=by kernel_rfl
 have hb:=bound hk;rw[Aa6] at hb;obtain ⟨p,q,hA,hV,rfl,hfz,hnd⟩:=hW;obtain ⟨hl,hwt⟩:=Zg ht hA;have Uz:ds.length=3:=hl;obtain ⟨d1,d2,d3,rfl⟩:∃d1 d2 d3,ds=[d1,d2,d3]:=by
   match ds,Uz with
   | [d1,d2,d3],_=>exact ⟨d1,d2,d3,rfl⟩
 simp only[Rows.uptoBulkAll] at hb;obtain ⟨raw,h1⟩:=Au5 underlying9 (hwt 0 9 d1 rfl rfl);obtain ⟨l,h2⟩:=Ap2 (hwt 1 22 d2 rfl rfl);obtain ⟨x,y,z,w,h3⟩:=Ap3 (hwt 2 23 d3 rfl rfl);have a1:R5 prog 9 d1= .p (.str raw):=by unfold R5 Apr;rw[show Apu prog 9=false by kernel_rfl,if_neg (by decide),h1];rfl
 have a2:R5 prog 22 d2= .p (.sl (Go.Am.BZ l)):=by unfold R5 Apr;rw[show Apu prog 22=false by kernel_rfl,if_neg (by decide),h2];rfl
 have a3:R5 prog 23 d3= .agg [.p (.int .i64 x),.p (.int .i64 y),.p (.int .i64 z),.p (.int .i64 w)]:=by unfold R5;rw[if_pos (by kernel_rfl),h3];rfl
 refine Abn [] IN ⟨p,q,hA,hV,rfl,hfz,hnd⟩ rfl ht rfl underlying4 rfl Ae3 (λ x hx=>by simp at hx) [] rfl ?_
 show B2 prog 3 [R5 prog 9 d1,R5 prog 22 d2,R5 prog 23 d3] _ _
 rw[a1,a2,a3];exact (Ue raw l x y z w).mono λ _ _ h=>h.2
theorem Nc(os:Os):laidMet prog Rows.loaderLoadsUptoRow.laid ((Abo os [(3,Rows.laid_unicode_utf8_acceptRanges),(2,Rows.laid_unicode_utf8_first)]).forCall (λ _ _=>0) ⟨#[],#[.string ⟨#[]⟩,.slice none 0 0,.agg #[.int .i64 0,.int .i64 0,.int .i64 0,.int .i64 0]],[]⟩).memory:=
 laidMet_of_run' 8 (by kernel_rfl) (by kernel_rfl)
theorem Qm(os:Os){H:Type}(enc:TypeId×Value->H):∃places,DataW.whole enc prog ((Abo os [(3,Rows.laid_unicode_utf8_acceptRanges),(2,Rows.laid_unicode_utf8_first)]).forCall (λ _ _=>0) ⟨#[],#[.string ⟨#[]⟩,.slice none 0 0,.agg #[.int .i64 0,.int .i64 0,.int .i64 0,.int .i64 0]],[]⟩).memory Tryz.f3.params.toList Rows.loaderLoadsSpec.vars false (#[.string ⟨#[]⟩,.slice none 0 0,.agg #[.int .i64 0,.int .i64 0,.int .i64 0,.int .i64 0]]:Array Value).toList 8=some ([.lit (.string []),.nil,.agg [.lit (.int .i64 0),.lit (.int .i64 0),.lit (.int .i64 0),.lit (.int .i64 0)]],[],places):=
 ⟨[],by kernel_rfl⟩
theorem loaderLoads_lifted(os:Os)(started:os.Started)(H:Type)(enc:TypeId×Value->H)(F:Stop.Interp):
   ReturnsInHanded {} Tryz.checked os 3 .any ((Rows.OpenSpec.upto Rows.loaderLoadsSpec).preRow enc prog Tryz.f3 Rows.loaderLoadsUptoRow.domain false Rows.loaderLoadsUptoRow.laid) (((Rows.OpenSpec.upto Rows.loaderLoadsSpec).at F).post enc prog Tryz.f3 false true false false):=by
 obtain ⟨places,hx⟩:=Qm os enc;refine returnsInHanded_of_row (C:=Tryz.checked) (s:=Rows.OpenSpec.upto Rows.loaderLoadsSpec) own started (by kernel_rfl) func3
   (witness_row_at (enc:=enc) (C:=Tryz.checked) false (Abo os [(3,Rows.laid_unicode_utf8_acceptRanges),(2,Rows.laid_unicode_utf8_first)]) #[.string ⟨#[]⟩,.slice none 0 0,.agg #[.int .i64 0,.int .i64 0,.int .i64 0,.int .i64 0]] rfl (by kernel_rfl) (by kernel_rfl) (by kernel_rfl)
     (OpenSpec.preRow_of_cond 8 hx (by kernel_rfl) (λ k hk=>by cases hk;kernel_rfl) (by kernel_rfl) (Nc os))) ?_
 intro W base args ds gs before IN hW _ Ayj _ hL _ _;exact Nd H enc W base args ds gs before IN hW (Ayj _ rfl)
theorem loaderLoads_said:Rows.LoaderLoadsUptoSaid:=
 OpenClaim.holds_of_cond 3 Tryz.f3 rfl rfl rfl rfl rfl rfl rfl ⟨rfl,rfl,rfl,rfl,rfl⟩ rfl rfl rfl rfl rfl (by kernel_rfl) func3 (by kernel_rfl)
   (of_decide_eq_true (by kernel_rfl)) (by unfold Func.isWrapper;first | (rw[if_pos (by decide+kernel)];kernel_rfl) | (rw[if_neg (by decide+kernel)];exact ⟨rfl,rfl⟩))
   (λ os started H enc _ F=>by rw[OpenClaim.pre_eq_preRow];exact loaderLoads_lifted os started H enc F)
theorem Qn(f:FuncId)(fn:Func)(hf:Tryz.pinned.checked.prog.funcNamed "blockway/blockwaylaw11.LoaderLoads" =some f)(hfn:Tryz.pinned.checked.prog.funcs[f]?=some fn):
   false=Tryz.pinned.checked.prog.looks []/\∀(j:Nat) t,fn.params[j]?=some t->Tryz.pinned.checked.prog.wantsStandIn t=false:=by
 obtain rfl:f=3:=Option.some.inj ((show prog.funcNamed "blockway/blockwaylaw11.LoaderLoads" =some 3 by kernel_rfl).symm.trans hf) |>.symm;obtain rfl:fn=Tryz.f3:=(Option.some.inj (func3.symm.trans hfn)).symm;refine ⟨by kernel_rfl,λ j t ht=>?_⟩;have DD:Tryz.f3.params.toList.all (λ t=>!Tryz.pinned.checked.prog.wantsStandIn t)=true:=by kernel_rfl
 have hm:=List.all_eq_true.1 DD t (Array.mem_toList_iff.2 (Array.mem_of_getElem? ht))
 simpa using hm
theorem loaderLoads_proved:Rows.LoaderLoadsUptoCardSaid:=
 Claim7.holds_tied_plain_at .later [] _ _ _ _ loaderLoads_said (λ _ h=>by cases h) (by kernel_rfl) (λ _ h=>by cases h) loaderLoadsUpto_row_tie rfl ⟨rfl,rfl⟩ (by kernel_rfl) rfl Qn (by kernel_rfl)
end Go.Proofs.YtjbklifaekjilaaGreatDoor
end
