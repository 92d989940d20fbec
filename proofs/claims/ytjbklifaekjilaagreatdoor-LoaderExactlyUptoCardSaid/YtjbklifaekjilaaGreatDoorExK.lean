/- LoaderExactly: whatever the arguments of bulk at most 1048576, the law returns true and leaves its arguments as they were; the listed tables as the program's text lays them. -/
import Derived.Test.YtjbklifaekjilaaGreatDoorCards
import Derived.Test.YtjbklifaekjilaaGreatDoorTie
import Derived.Deep.DeepHandedRow
import Derived.ProofKit
import Derived.JoinedCond
import Derived.Test.YtjbklifaekjilaaGreatDoorExJ
section
namespace Go.Proofs.YtjbklifaekjilaaGreatDoor
open Go.Am Go.ChangeShapes Go.WideShapes Go.ChangeAt Go.RowKit
open Go.Proofs.Tryz
set_option linter.unusedVariables false
set_option maxRecDepth 100000
theorem own:ownKnob prog.godebug=none:=by kernel_rfl
theorem l0{H:Type}(l r:List (DataW H)):Rows.uptoBulkAll (l++r)=Rows.uptoBulkAll l+Rows.uptoBulkAll r:=by
 induction l with
 | nil=>simp[Rows.uptoBulkAll]
 | cons x l ih=>simp only[A5,Rows.uptoBulkAll,ih];omega
theorem bound{H:Type}{l:List (DataW H)}(hk:Rows.uptoSmall H l=true):Rows.uptoBulkAll l<=1048576:=Ad hk
theorem Ao2{n:Nat}{cs:List Pd}(h:p0 prog n 22 cs):∃l:List Int,cs=[.sl (Go.Am.BY l)]:=by
 obtain ⟨m,es,rfl,Li⟩:=Awc underlying22 h;obtain ⟨l,rfl⟩:=Ad2 (λ v:Int=>[Pd.int .i64 v]) es λ y hy=>by
   obtain ⟨v,h1,_⟩:=SX underlying3 (Li y hy);exact ⟨v,h1⟩
 exact ⟨l,rfl⟩
def cellsOf:DataW Unit->List Value
  | .lit (.int k n)=>[.int k n]
  | .agg parts=>k4 parts
  | _=>[]
where k4:List (DataW Unit)->List Value
  | []=>[]
  | d::r=>cellsOf d++k4 r
noncomputable def Aak(os:Os)(Aiv:List (Nat×DataW Unit)):World:=
 let w0:=World.holding prog os ⟨#[],#[],[]⟩
 {w0 with heap:=Aiv.foldl (λ h x=>h.modify x.1 λ
     | .cells _ t frozen=> .cells (cellsOf x.2).toArray t frozen
     | o=>o) w0.heap}
end Go.Proofs.YtjbklifaekjilaaGreatDoor
end
section
namespace Go.Proofs.YtjbklifaekjilaaGreatDoor
open Go.Am Go.ChangeShapes Go.WideShapes Go.ChangeAt Go.RowKit
open Go.Proofs.Tryz
set_option maxRecDepth 100000
set_option linter.unusedVariables false
theorem Ao3{n:Nat}{cs:List Pd}(h:p0 prog n 23 cs):∃a b c d:Int,cs=[.int .i64 a,.int .i64 b,.int .i64 c,.int .i64 d]:=by
 obtain ⟨m,es,rfl,hl,Li⟩:=Awd underlying23 h;obtain ⟨u,v,w,y,rfl⟩:∃u v w y,es=[u,v,w,y]:=by
   match es,hl with
   | [u,v,w,y],_=>exact ⟨u,v,w,y,rfl⟩
 obtain ⟨x1,rfl,_⟩:=SX underlying3 (Li u (by simp));obtain ⟨x2,rfl,_⟩:=SX underlying3 (Li v (by simp));obtain ⟨x3,rfl,_⟩:=SX underlying3 (Li w (by simp));obtain ⟨x4,rfl,_⟩:=SX underlying3 (Li y (by simp));exact ⟨x1,x2,x3,x4,rfl⟩
theorem LC(H:Type)(enc:TypeId×Value->H)(W:World)(base:Nat)(args:Array Value)(ds gs:List (DataW H))(before:List MemPlace)
   (IC:∀(j:Nat) t v,Tryz.f4.params[j]?=some t->args[j]?=some v->Value.okWide prog W .any base t v)
   (hW:DataW.Whole enc prog Tryz.f4.params.toList Rows.loaderExactlySpec.vars false W args.toList ds gs before) (hk:Rows.uptoSmall H (ds++gs)=true):
   Calls prog 4 args W λ e W'=>∃v,e= .returned v/\Rows.loaderExactlySpec.post enc prog Tryz.f4 false true false false W args v W':=by
 have ht:Tryz.f4.params.toList.all (Ev prog 30)=true:=by kernel_rfl
 have hb:=bound hk;rw[l0] at hb;obtain ⟨p,q,hA,hV,rfl,hfz,hnd⟩:=hW;obtain ⟨hl,hwt⟩:=YB ht hA;have T0:ds.length=2:=hl;obtain ⟨d1,d2,rfl⟩:∃d1 d2,ds=[d1,d2]:=by
   match ds,T0 with
   | [d1,d2],_=>exact ⟨d1,d2,rfl⟩
 simp only[Rows.uptoBulkAll] at hb;obtain ⟨l,h2⟩:=Ao2 (hwt 0 22 d1 rfl rfl);obtain ⟨x,y,z,w,h3⟩:=Ao3 (hwt 1 23 d2 rfl rfl);have a2:Vz prog 22 d1= .p (.sl (Go.Am.BY l)):=by unfold Vz Arp;rw[show Ars prog 22=false by kernel_rfl,if_neg (by decide),h2];rfl
 have a3:Vz prog 23 d2= .agg [.p (.int .i64 x),.p (.int .i64 y),.p (.int .i64 z),.p (.int .i64 w)]:=by unfold Vz;rw[if_pos (by kernel_rfl),h3];rfl
 refine Aaj [] IC ⟨p,q,hA,hV,rfl,hfz,hnd⟩ rfl ht rfl underlying4 rfl Ad0 (λ x hx=>by simp at hx) [] rfl ?_
 show B1 prog 4 [Vz prog 22 d1,Vz prog 23 d2] _ _
 rw[a2,a3];exact (Q9 l x y z w).mono λ _ _ h=>h.2
theorem LB(os:Os):laidMet prog Rows.loaderExactlyUptoRow.laid ((Aak os [(3,Rows.laid_unicode_utf8_acceptRanges),(2,Rows.laid_unicode_utf8_first)]).forCall (λ _ _=>0) ⟨#[],#[.slice none 0 0,.agg #[.int .i64 0,.int .i64 0,.int .i64 0,.int .i64 0]],[]⟩).memory:=
 laidMet_of_run' 8 (by kernel_rfl) (by kernel_rfl)
theorem N2(os:Os){H:Type}(enc:TypeId×Value->H):∃places,DataW.whole enc prog ((Aak os [(3,Rows.laid_unicode_utf8_acceptRanges),(2,Rows.laid_unicode_utf8_first)]).forCall (λ _ _=>0) ⟨#[],#[.slice none 0 0,.agg #[.int .i64 0,.int .i64 0,.int .i64 0,.int .i64 0]],[]⟩).memory Tryz.f4.params.toList Rows.loaderExactlySpec.vars false (#[.slice none 0 0,.agg #[.int .i64 0,.int .i64 0,.int .i64 0,.int .i64 0]]:Array Value).toList 8=some ([.nil,.agg [.lit (.int .i64 0),.lit (.int .i64 0),.lit (.int .i64 0),.lit (.int .i64 0)]],[],places):=
 ⟨[],by kernel_rfl⟩
theorem loaderExactly_lifted(os:Os)(started:os.Started)(H:Type)(enc:TypeId×Value->H)(F:Stop.Interp):
   ReturnsInHanded {} Tryz.checked os 4 .any ((Rows.OpenSpec.upto Rows.loaderExactlySpec).preRow enc prog Tryz.f4 Rows.loaderExactlyUptoRow.domain false Rows.loaderExactlyUptoRow.laid) (((Rows.OpenSpec.upto Rows.loaderExactlySpec).at F).post enc prog Tryz.f4 false true false false):=by
 obtain ⟨places,hx⟩:=N2 os enc;refine returnsInHanded_of_row (C:=Tryz.checked) (s:=Rows.OpenSpec.upto Rows.loaderExactlySpec) own started (by kernel_rfl) func4
   (witness_row_at (enc:=enc) (C:=Tryz.checked) false (Aak os [(3,Rows.laid_unicode_utf8_acceptRanges),(2,Rows.laid_unicode_utf8_first)]) #[.slice none 0 0,.agg #[.int .i64 0,.int .i64 0,.int .i64 0,.int .i64 0]] rfl (by kernel_rfl) (by kernel_rfl) (by kernel_rfl)
     (OpenSpec.preRow_of_cond 8 hx (by kernel_rfl) (λ k hk=>by cases hk;kernel_rfl) (by kernel_rfl) (LB os))) ?_
 intro W base args ds gs before IC hW _ Axx _ hL _ _;exact LC H enc W base args ds gs before IC hW (Axx _ rfl)
theorem loaderExactly_said:Rows.LoaderExactlyUptoSaid:=
 OpenClaim.holds_of_cond 4 Tryz.f4 rfl rfl rfl rfl rfl rfl rfl ⟨rfl,rfl,rfl,rfl,rfl⟩ rfl rfl rfl rfl rfl (by kernel_rfl) func4 (by kernel_rfl)
   (Ad (by kernel_rfl)) (by unfold Func.isWrapper;first | (rw[if_pos (by decide+kernel)];kernel_rfl) | (rw[if_neg (by decide+kernel)];exact ⟨rfl,rfl⟩))
   (λ os started H enc _ F=>by rw[OpenClaim.pre_eq_preRow];exact loaderExactly_lifted os started H enc F)
theorem N3(f:FuncId)(fn:Func)(hf:Tryz.pinned.checked.prog.funcNamed "blockway/blockwaylaw11.LoaderExactly" =some f)(hfn:Tryz.pinned.checked.prog.funcs[f]?=some fn):
   false=Tryz.pinned.checked.prog.looks []/\∀(j:Nat) t,fn.params[j]?=some t->Tryz.pinned.checked.prog.wantsStandIn t=false:=by
 obtain rfl:f=4:=Ac ((show prog.funcNamed "blockway/blockwaylaw11.LoaderExactly" =some 4 by kernel_rfl).symm.trans hf) |>.symm;obtain rfl:fn=Tryz.f4:=(Ac (func4.symm.trans hfn)).symm;refine ⟨by kernel_rfl,λ j t ht=>?_⟩;have Dw:Tryz.f4.params.toList.all (λ t=>!Tryz.pinned.checked.prog.wantsStandIn t)=true:=by kernel_rfl
 have hm:=AB.1 Dw t (Array.mem_toList_iff.2 (Array.mem_of_getElem? ht))
 simpa using hm
theorem loaderExactly_proved:Rows.LoaderExactlyUptoCardSaid:=
 Claim7.holds_tied_plain_at .later [] _ _ _ _ loaderExactly_said (λ _ h=>by cases h) (by kernel_rfl) (λ _ h=>by cases h) loaderExactlyUpto_row_tie rfl ⟨rfl,rfl⟩ (by kernel_rfl) rfl N3 (by kernel_rfl)
end Go.Proofs.YtjbklifaekjilaaGreatDoor
end
