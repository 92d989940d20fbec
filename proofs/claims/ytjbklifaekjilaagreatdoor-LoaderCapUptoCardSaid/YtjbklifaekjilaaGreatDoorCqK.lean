/- LoaderCap: whatever the arguments of bulk at most 1048576, the law returns true and leaves its arguments as they were; the listed tables as the program's text lays them. -/
import Derived.Test.YtjbklifaekjilaaGreatDoorCards
import Derived.Test.YtjbklifaekjilaaGreatDoorTie
import Derived.Deep.DeepHandedRow
import Derived.ProofKit
import Derived.JoinedCond
import Derived.Test.YtjbklifaekjilaaGreatDoorCqJ
section
namespace Go.Proofs.YtjbklifaekjilaaGreatDoor
open Go.Am Go.ChangeShapes Go.WideShapes Go.ChangeAt Go.RowKit
open Go.Proofs.Tryz
set_option linter.unusedVariables false
set_option maxRecDepth 100000
theorem own:ownKnob prog.godebug=none:=by kernel_rfl
theorem Zp{H:Type}(l r:List (DataW H)):Rows.uptoBulkAll (l++r)=Rows.uptoBulkAll l+Rows.uptoBulkAll r:=by
 induction l with
 | nil=>simp[Rows.uptoBulkAll]
 | cons x l ih=>simp only[List.cons_append,Rows.uptoBulkAll,ih];omega
theorem bound{H:Type}{l:List (DataW H)}(hk:Rows.uptoSmall H l=true):Rows.uptoBulkAll l<=1048576:=of_decide_eq_true hk
theorem Am8{n:Nat}{cs:List Pd}(h:wtP prog n 22 cs):∃l:List Int,cs=[.sl (Go.Am.BT l)]:=by
 obtain ⟨m,es,rfl,KZ⟩:=Aum underlying22 h;obtain ⟨l,rfl⟩:=Abq (λ v:Int=>[Pd.int .i64 v]) es λ y hy=>by
   obtain ⟨v,h1,_⟩:=Arj underlying3 (KZ y hy);exact ⟨v,h1⟩
 exact ⟨l,rfl⟩
def cellsOf:DataW Unit->List Value
  | .lit (.int k n)=>[.int k n]
  | .agg parts=>Zk parts
  | _=>[]
where Zk:List (DataW Unit)->List Value
  | []=>[]
  | d::r=>cellsOf d++Zk r
noncomputable def o5(os:Os)(Ayl:List (Nat×DataW Unit)):World:=
 let w0:=World.holding prog os ⟨#[],#[],[]⟩
 {w0 with heap:=Ayl.foldl (λ h x=>h.modify x.1 λ
     | .cells _ t frozen=> .cells (cellsOf x.2).toArray t frozen
     | o=>o) w0.heap}
end Go.Proofs.YtjbklifaekjilaaGreatDoor
end
section
namespace Go.Proofs.YtjbklifaekjilaaGreatDoor
open Go.Am Go.ChangeShapes Go.WideShapes Go.ChangeAt Go.RowKit
open Go.Proofs.Tryz
set_option maxRecDepth 100000
set_option linter.unusedVariables false
theorem NW(H:Type)(enc:TypeId×Value->H)(W:World)(base:Nat)(args:Array Value)(ds gs:List (DataW H))(before:List MemPlace)
   (I4:∀(j:Nat) t v,Tryz.f6.params[j]?=some t->args[j]?=some v->Value.okWide prog W .any base t v)
   (hW:DataW.Whole enc prog Tryz.f6.params.toList Rows.loaderCapSpec.vars false W args.toList ds gs before) (hk:Rows.uptoSmall H (ds++gs)=true) (hL:laidMetH prog Rows.loaderCapUptoRow.laid W):
   Calls prog 6 args W λ e W'=>∃v,e= .returned v/\Rows.loaderCapSpec.post enc prog Tryz.f6 false true false false W args v W':=by
 have Ap2:Lib.TabIs prog W "internal/strconv.uint64pow10" .u64 Lib.pow10Tab:=
   XO (keep:=λ x=>x.1== "internal/strconv.uint64pow10") (g:=1) (t:=223) (e:=192) (n:=Lib.pow10Tab.length) hL (by kernel_rfl) (by kernel_rfl) (by kernel_rfl) (by kernel_rfl) (by kernel_rfl) (by kernel_rfl) (by kernel_rfl) (by kernel_rfl)
 have Aw8:∀(M:Nat->Mb) s m,Nh (λ b=>b<W.heap.size) W M s m (.C8 1 JZ):=λ M s m=>Aho (by kernel_rfl) (Aru (by kernel_rfl) Ap2) Ap2;have ht:Tryz.f6.params.toList.all (T7 prog)=true:=by kernel_rfl
 have hb:=bound hk;rw[Zp] at hb;obtain ⟨p,q,hA,hV,rfl,hfz,hnd⟩:=hW;obtain ⟨hl,hwt⟩:=Aam ht hA;have S2:ds.length=1:=hl;obtain ⟨d1,rfl⟩:∃d1,ds=[d1]:=by
   match ds,S2 with
   | [d1],_=>exact ⟨d1,rfl⟩
 simp only[Rows.uptoBulkAll] at hb;obtain ⟨l,h2⟩:=Am8 (hwt 0 22 d1 rfl rfl);refine o4 I4 ⟨p,q,hA,hV,rfl,hfz,hnd⟩ rfl ht rfl underlying4 rfl Abn Aw8 ?_;simp only[List.map_cons,List.map_nil,Amv,h2,List.getD_cons_zero];exact Wx l
theorem NV(os:Os):laidMet prog Rows.loaderCapUptoRow.laid ((o5 os [(4,Rows.laid_math_bits_deBruijn32tab),(5,Rows.laid_math_bits_deBruijn64tab),(1,Rows.laid_internal_strconv_uint64pow10),(3,Rows.laid_unicode_utf8_acceptRanges),(2,Rows.laid_unicode_utf8_first)]).forCall (λ _ _=>0) ⟨#[],#[.slice none 0 0],[]⟩).memory:=
 laidMet_of_run' 8 (by kernel_rfl) (by kernel_rfl)
theorem Rr(os:Os){H:Type}(enc:TypeId×Value->H):∃places,DataW.whole enc prog ((o5 os [(4,Rows.laid_math_bits_deBruijn32tab),(5,Rows.laid_math_bits_deBruijn64tab),(1,Rows.laid_internal_strconv_uint64pow10),(3,Rows.laid_unicode_utf8_acceptRanges),(2,Rows.laid_unicode_utf8_first)]).forCall (λ _ _=>0) ⟨#[],#[.slice none 0 0],[]⟩).memory Tryz.f6.params.toList Rows.loaderCapSpec.vars false (#[.slice none 0 0]:Array Value).toList 8=some ([.nil],[],places):=
 ⟨[],by kernel_rfl⟩
theorem loaderCap_lifted(os:Os)(started:os.Started)(H:Type)(enc:TypeId×Value->H)(F:Stop.Interp):
   ReturnsInHanded {} Tryz.checked os 6 .any ((Rows.OpenSpec.upto Rows.loaderCapSpec).preRow enc prog Tryz.f6 Rows.loaderCapUptoRow.domain false Rows.loaderCapUptoRow.laid) (((Rows.OpenSpec.upto Rows.loaderCapSpec).at F).post enc prog Tryz.f6 false true false false):=by
 obtain ⟨places,hx⟩:=Rr os enc;refine returnsInHanded_of_row (C:=Tryz.checked) (s:=Rows.OpenSpec.upto Rows.loaderCapSpec) own started (by kernel_rfl) func6
   (witness_row_at (enc:=enc) (C:=Tryz.checked) false (o5 os [(4,Rows.laid_math_bits_deBruijn32tab),(5,Rows.laid_math_bits_deBruijn64tab),(1,Rows.laid_internal_strconv_uint64pow10),(3,Rows.laid_unicode_utf8_acceptRanges),(2,Rows.laid_unicode_utf8_first)]) #[.slice none 0 0] rfl (by kernel_rfl) (by kernel_rfl) (by kernel_rfl)
     (OpenSpec.preRow_of_cond 8 hx (by kernel_rfl) (λ k hk=>by cases hk;kernel_rfl) (by kernel_rfl) (NV os))) ?_
 intro W base args ds gs before I4 hW _ Awe _ hL _ _;exact NW H enc W base args ds gs before I4 hW (Awe _ rfl) hL
theorem loaderCap_said:Rows.LoaderCapUptoSaid:=
 OpenClaim.holds_of_cond 6 Tryz.f6 rfl rfl rfl rfl rfl rfl rfl ⟨rfl,rfl,rfl,rfl,rfl⟩ rfl rfl rfl rfl rfl (by kernel_rfl) func6 (by kernel_rfl)
   (of_decide_eq_true (by kernel_rfl)) (by unfold Func.isWrapper;first | (rw[if_pos (by decide+kernel)];kernel_rfl) | (rw[if_neg (by decide+kernel)];exact ⟨rfl,rfl⟩))
   (λ os started H enc _ F=>by rw[OpenClaim.pre_eq_preRow];exact loaderCap_lifted os started H enc F)
theorem Ru(f:FuncId)(fn:Func)(hf:Tryz.pinned.checked.prog.funcNamed "blockway/blockwaylaw11.LoaderCap" =some f)(hfn:Tryz.pinned.checked.prog.funcs[f]?=some fn):
   false=Tryz.pinned.checked.prog.looks []/\∀(j:Nat) t,fn.params[j]?=some t->Tryz.pinned.checked.prog.wantsStandIn t=false:=by
 obtain rfl:f=6:=Option.some.inj ((show prog.funcNamed "blockway/blockwaylaw11.LoaderCap" =some 6 by kernel_rfl).symm.trans hf) |>.symm;obtain rfl:fn=Tryz.f6:=(Option.some.inj (func6.symm.trans hfn)).symm;refine ⟨by kernel_rfl,λ j t ht=>?_⟩;have DZ:Tryz.f6.params.toList.all (λ t=>!Tryz.pinned.checked.prog.wantsStandIn t)=true:=by kernel_rfl
 have hm:=List.all_eq_true.1 DZ t (Array.mem_toList_iff.2 (Array.mem_of_getElem? ht))
 simpa using hm
theorem loaderCap_proved:Rows.LoaderCapUptoCardSaid:=
 Claim7.holds_tied_plain_at .later [] _ _ _ _ loaderCap_said (λ _ h=>by cases h) (by kernel_rfl) (λ _ h=>by cases h) loaderCapUpto_row_tie rfl ⟨rfl,rfl⟩ (by kernel_rfl) rfl Ru (by kernel_rfl)
end Go.Proofs.YtjbklifaekjilaaGreatDoor
end
