/- LoaderBack: whatever the arguments of bulk at most 1048576, the law returns true and leaves its arguments as they were; the listed tables as the program's text lays them. -/
import Derived.Test.YtjbklifaekjilaaGreatDoorCards
import Derived.Test.YtjbklifaekjilaaGreatDoorTie
import Derived.Deep.DeepHandedRow
import Derived.ProofKit
import Derived.JoinedCond
import Derived.Test.YtjbklifaekjilaaGreatDoorBrJ
section
namespace Go.Proofs.YtjbklifaekjilaaGreatDoor
open Go.Am Go.ChangeShapes Go.WideShapes Go.ChangeAt Go.RowKit
open Go.Proofs.Tryz
set_option linter.unusedVariables false
set_option maxRecDepth 100000
theorem own:ownKnob prog.godebug=none:=by kernel_rfl
theorem k9{H:Type}(l r:List (DataW H)):Rows.uptoBulkAll (l++r)=Rows.uptoBulkAll l+Rows.uptoBulkAll r:=by
 induction l with
 | nil=>simp[Rows.uptoBulkAll]
 | cons x l ih=>simp only[List.cons_append,Rows.uptoBulkAll,ih];omega
theorem bound{H:Type}{l:List (DataW H)}(hk:Rows.uptoSmall H l=true):Rows.uptoBulkAll l<=1048576:=of_decide_eq_true hk
theorem Anm{n:Nat}{cs:List Pd}(h:wtP prog n 22 cs):∃l:List Int,cs=[.sl (Go.Am.BX l)]:=by
 obtain ⟨m,es,rfl,Ld⟩:=Awj underlying22 h;obtain ⟨l,rfl⟩:=Acx (λ v:Int=>[Pd.int .i64 v]) es λ y hy=>by
   obtain ⟨v,h1,_⟩:=At7 underlying3 (Ld y hy);exact ⟨v,h1⟩
 exact ⟨l,rfl⟩
def cellsOf:DataW Unit->List Value
  | .lit (.int k n)=>[.int k n]
  | .agg parts=>j8 parts
  | _=>[]
where j8:List (DataW Unit)->List Value
  | []=>[]
  | d::r=>cellsOf d++j8 r
noncomputable def Aaf(os:Os)(Bah:List (Nat×DataW Unit)):World:=
 let w0:=World.holding prog os ⟨#[],#[],[]⟩
 {w0 with heap:=Bah.foldl (λ h x=>h.modify x.1 λ
     | .cells _ t frozen=> .cells (cellsOf x.2).toArray t frozen
     | o=>o) w0.heap}
end Go.Proofs.YtjbklifaekjilaaGreatDoor
end
section
namespace Go.Proofs.YtjbklifaekjilaaGreatDoor
open Go.Am Go.ChangeShapes Go.WideShapes Go.ChangeAt Go.RowKit
open Go.Proofs.Tryz
set_option maxRecDepth 100000
set_option linter.unusedVariables false
theorem ND(H:Type)(enc:TypeId×Value->H)(W:World)(base:Nat)(args:Array Value)(ds gs:List (DataW H))(before:List MemPlace)
   (Ip:∀(j:Nat) t v,Tryz.f7.params[j]?=some t->args[j]?=some v->Value.okWide prog W .any base t v)
   (hW:DataW.Whole enc prog Tryz.f7.params.toList Rows.loaderBackSpec.vars false W args.toList ds gs before) (hk:Rows.uptoSmall H (ds++gs)=true) (hL:laidMetH prog Rows.loaderBackUptoRow.laid W):
   Calls prog 7 args W λ e W'=>∃v,e= .returned v/\Rows.loaderBackSpec.post enc prog Tryz.f7 false true false false W args v W':=by
 have Aqn:Lib.TabIs prog W "internal/strconv.uint64pow10" .u64 Lib.pow10Tab:=
   YD (keep:=λ x=>x.1== "internal/strconv.uint64pow10") (g:=1) (t:=223) (e:=192) (n:=Lib.pow10Tab.length) hL (by kernel_rfl) (by kernel_rfl) (by kernel_rfl) (by kernel_rfl) (by kernel_rfl) (by kernel_rfl) (by kernel_rfl) (by kernel_rfl)
 have Ay3:∀(M:Nat->Mb) s m,NO (λ b=>b<W.heap.size) W M s m (.Df 1 Lw):=λ M s m=>Aip (by kernel_rfl) (Ati (by kernel_rfl) Aqn) Aqn;have ht:Tryz.f7.params.toList.all (UT prog)=true:=by kernel_rfl
 have hb:=bound hk;rw[k9] at hb;obtain ⟨p,q,hA,hV,rfl,hfz,hnd⟩:=hW;obtain ⟨hl,hwt⟩:=Abr ht hA;have Sp:ds.length=1:=hl;obtain ⟨d1,rfl⟩:∃d1,ds=[d1]:=by
   match ds,Sp with
   | [d1],_=>exact ⟨d1,rfl⟩
 simp only[Rows.uptoBulkAll] at hb;obtain ⟨l,h2⟩:=Anm (hwt 0 22 d1 rfl rfl);refine Aae Ip ⟨p,q,hA,hV,rfl,hfz,hnd⟩ rfl ht rfl underlying4 rfl Acu Ay3 ?_;simp only[List.map_cons,List.map_nil,Aoa,h2,List.getD_cons_zero];exact U3 l
theorem NC(os:Os):laidMet prog Rows.loaderBackUptoRow.laid ((Aaf os [(4,Rows.laid_math_bits_deBruijn32tab),(5,Rows.laid_math_bits_deBruijn64tab),(1,Rows.laid_internal_strconv_uint64pow10),(3,Rows.laid_unicode_utf8_acceptRanges),(2,Rows.laid_unicode_utf8_first)]).forCall (λ _ _=>0) ⟨#[],#[.slice none 0 0],[]⟩).memory:=
 laidMet_of_run' 8 (by kernel_rfl) (by kernel_rfl)
theorem QU(os:Os){H:Type}(enc:TypeId×Value->H):∃places,DataW.whole enc prog ((Aaf os [(4,Rows.laid_math_bits_deBruijn32tab),(5,Rows.laid_math_bits_deBruijn64tab),(1,Rows.laid_internal_strconv_uint64pow10),(3,Rows.laid_unicode_utf8_acceptRanges),(2,Rows.laid_unicode_utf8_first)]).forCall (λ _ _=>0) ⟨#[],#[.slice none 0 0],[]⟩).memory Tryz.f7.params.toList Rows.loaderBackSpec.vars false (#[.slice none 0 0]:Array Value).toList 8=some ([.nil],[],places):=
 ⟨[],by kernel_rfl⟩
theorem loaderBack_lifted(os:Os)(started:os.Started)(H:Type)(enc:TypeId×Value->H)(F:Stop.Interp):
   ReturnsInHanded {} Tryz.checked os 7 .any ((Rows.OpenSpec.upto Rows.loaderBackSpec).preRow enc prog Tryz.f7 Rows.loaderBackUptoRow.domain false Rows.loaderBackUptoRow.laid) (((Rows.OpenSpec.upto Rows.loaderBackSpec).at F).post enc prog Tryz.f7 false true false false):=by
 obtain ⟨places,hx⟩:=QU os enc;refine returnsInHanded_of_row (C:=Tryz.checked) (s:=Rows.OpenSpec.upto Rows.loaderBackSpec) own started (by kernel_rfl) func7
   (witness_row_at (enc:=enc) (C:=Tryz.checked) false (Aaf os [(4,Rows.laid_math_bits_deBruijn32tab),(5,Rows.laid_math_bits_deBruijn64tab),(1,Rows.laid_internal_strconv_uint64pow10),(3,Rows.laid_unicode_utf8_acceptRanges),(2,Rows.laid_unicode_utf8_first)]) #[.slice none 0 0] rfl (by kernel_rfl) (by kernel_rfl) (by kernel_rfl)
     (OpenSpec.preRow_of_cond 8 hx (by kernel_rfl) (λ k hk=>by cases hk;kernel_rfl) (by kernel_rfl) (NC os))) ?_
 intro W base args ds gs before Ip hW _ Ay9 _ hL _ _;exact ND H enc W base args ds gs before Ip hW (Ay9 _ rfl) hL
theorem loaderBack_said:Rows.LoaderBackUptoSaid:=
 OpenClaim.holds_of_cond 7 Tryz.f7 rfl rfl rfl rfl rfl rfl rfl ⟨rfl,rfl,rfl,rfl,rfl⟩ rfl rfl rfl rfl rfl (by kernel_rfl) func7 (by kernel_rfl)
   (of_decide_eq_true (by kernel_rfl)) (by unfold Func.isWrapper;first | (rw[if_pos (by decide+kernel)];kernel_rfl) | (rw[if_neg (by decide+kernel)];exact ⟨rfl,rfl⟩))
   (λ os started H enc _ F=>by rw[OpenClaim.pre_eq_preRow];exact loaderBack_lifted os started H enc F)
theorem QV(f:FuncId)(fn:Func)(hf:Tryz.pinned.checked.prog.funcNamed "blockway/blockwaylaw11.LoaderBack" =some f)(hfn:Tryz.pinned.checked.prog.funcs[f]?=some fn):
   false=Tryz.pinned.checked.prog.looks []/\∀(j:Nat) t,fn.params[j]?=some t->Tryz.pinned.checked.prog.wantsStandIn t=false:=by
 obtain rfl:f=7:=Option.some.inj ((show prog.funcNamed "blockway/blockwaylaw11.LoaderBack" =some 7 by kernel_rfl).symm.trans hf) |>.symm;obtain rfl:fn=Tryz.f7:=(Option.some.inj (func7.symm.trans hfn)).symm;refine ⟨by kernel_rfl,λ j t ht=>?_⟩;have DK:Tryz.f7.params.toList.all (λ t=>!Tryz.pinned.checked.prog.wantsStandIn t)=true:=by kernel_rfl
 have hm:=List.all_eq_true.1 DK t (Array.mem_toList_iff.2 (Array.mem_of_getElem? ht))
 simpa using hm
theorem loaderBack_proved:Rows.LoaderBackUptoCardSaid:=
 Claim7.holds_tied_plain_at .later [] _ _ _ _ loaderBack_said (λ _ h=>by cases h) (by kernel_rfl) (λ _ h=>by cases h) loaderBackUpto_row_tie rfl ⟨rfl,rfl⟩ (by kernel_rfl) rfl QV (by kernel_rfl)
end Go.Proofs.YtjbklifaekjilaaGreatDoor
end
