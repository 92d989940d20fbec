/- StoryBack: what is written is read back as it was, for all scripts and texts; no condition. -/
import Derived.Test.YtlfbkkljgighkaaGreatDoorCards
import Derived.Test.YtlfbkkljgighkaaGreatDoorTie
import Derived.Deep.DeepHandedRow
import Derived.ProofKit
import Derived.JoinedCond
import Derived.Test.YtlfbkkljgighkaaGreatDoorSkJ
section
namespace Go.Proofs.YtlfbkkljgighkaaGreatDoor
open Go.Am Go.ChangeShapes Go.WideShapes Go.ChangeAt Go.RowKit
open Go.Proofs.Tryz
set_option linter.unusedVariables false
set_option maxRecDepth 100000
theorem own:ownKnob prog.godebug=none:=by kernel_rfl
theorem Aqd{H:Type}(l r:List (DataW H)):Rows.uptoBulkAll (l++r)=Rows.uptoBulkAll l+Rows.uptoBulkAll r:=by
 induction l with
 | nil=>simp[Rows.uptoBulkAll]
 | cons x l a=>simp only[List.cons_append,Rows.uptoBulkAll,a];omega
theorem bound{H:Type}{l:List (DataW H)}(a:Rows.uptoSmall H l=true):Rows.uptoBulkAll l<=1048576:=of_decide_eq_true a
theorem Apu{n:Nat}{cs:List Pd}(h:wtP prog n 23 cs):∃l:List Int,cs=[.sl (Go.Am.CS l)]:=by
 obtain ⟨m,a,rfl,Vn⟩:=Bqa underlying23 h;obtain ⟨l,rfl⟩:=Av6 (λ v:Int=>[Pd.int .i64 v]) a λ y e=>by
   obtain ⟨v,b,_⟩:=Bml underlying3 (Vn y e);exact ⟨v,b⟩
 exact ⟨l,rfl⟩
def cellsOf:DataW Unit->List Value
  | .lit (.int k n)=>[.int k n]
  | .agg parts=>Aq8 parts
  | _=>[]
where Aq8:List (DataW Unit)->List Value
  | []=>[]
  | d::r=>cellsOf d++Aq8 r
noncomputable def Asc(os:Os)(Bc6:List (Nat×DataW Unit)):World:=
 let a:=World.holding prog os ⟨#[],#[],[]⟩
 {a with heap:=Bc6.foldl (λ h x=>h.modify x.1 λ
     | .cells _ t frozen=> .cells (cellsOf x.2).toArray t frozen
     | o=>o) a.heap}
end Go.Proofs.YtlfbkkljgighkaaGreatDoor
end
section
namespace Go.Proofs.YtlfbkkljgighkaaGreatDoor
open Go.Am Go.ChangeShapes Go.WideShapes Go.ChangeAt Go.RowKit
open Go.Proofs.Tryz
set_option maxRecDepth 100000
set_option linter.unusedVariables false
theorem VE(H:Type)(enc:TypeId×Value->H)(W:World)(base:Nat)(args:Array Value)(ds gs:List (DataW H))(before:List MemPlace)
   (Rr:∀(j:Nat) t v,Tryz.f4.params[j]?=some t->args[j]?=some v->Value.okWide prog W .any base t v)
   (hW:DataW.Whole enc prog Tryz.f4.params.toList Rows.storyBackSpec.vars false W args.toList ds gs before) (hk:Rows.uptoSmall H (ds++gs)=true) (hL:laidMetH prog Rows.storyBackUptoRow.laid W):
   Calls prog 4 args W λ e W'=>∃v,e= .returned v/\Rows.storyBackSpec.post enc prog Tryz.f4 false true false false W args v W':=by
 have Bjj:Lib.TabIs prog W "internal/strconv.uint64pow10" .u64 Lib.pow10Tab:=
   Amq (keep:=λ x=>x.1== "internal/strconv.uint64pow10") (g:=3) (t:=322) (e:=119) (n:=Lib.pow10Tab.length) hL (by kernel_rfl) (by kernel_rfl) (by kernel_rfl) (by kernel_rfl) (by kernel_rfl) (by kernel_rfl) (by kernel_rfl) (by kernel_rfl)
 have Bs6:∀(M:Nat->Mb) s m,UN (λ b=>b<W.heap.size) W M s m (.Ev 3 Kx):=λ M s m=>Bc7 (by kernel_rfl) (Bnc (by kernel_rfl) Bjj) Bjj;have ht:Tryz.f4.params.toList.all (Hv prog 30)=true:=by kernel_rfl
 have hb:=bound hk;rw[Aqd] at hb;obtain ⟨p,q,hA,hV,rfl,hfz,hnd⟩:=hW;obtain ⟨hl,hwt⟩:=Amn ht hA;have hl2:ds.length=2:=hl;obtain ⟨d1,d2,rfl⟩:∃d1 d2,ds=[d1,d2]:=by
   match ds,hl2 with
   | [d1,d2],_=>exact ⟨d1,d2,rfl⟩
 simp only[Rows.uptoBulkAll] at hb;obtain ⟨l,h1⟩:=Apu (hwt 0 23 d1 rfl rfl);obtain ⟨m,h2⟩:=Apu (hwt 1 23 d2 rfl rfl);have a1:Ag9 prog 23 d1= .p (.sl (Go.Am.CS l)):=by unfold Ag9 Bhe;rw[show Bhn prog 23=false by kernel_rfl,if_neg (by decide),h1];rfl
 have a2:Ag9 prog 23 d2= .p (.sl (Go.Am.CS m)):=by unfold Ag9 Bhe;rw[show Bhn prog 23=false by kernel_rfl,if_neg (by decide),h2];rfl
 refine Asb [(3,Kx)] Rr ⟨p,q,hA,hV,rfl,hfz,hnd⟩ rfl ht rfl underlying4 rfl Av0 (λ x hx=>by simp only[List.mem_singleton] at hx;subst hx;exact Bs6) [(1000000,.Ev 3 Kx)] rfl ?_
 show C3 prog 4 [Ag9 prog 23 d1,Ag9 prog 23 d2] _ _
 rw[a1,a2];exact (Ajr l m).mono λ _ _ h=>h.2
theorem VD(os:Os):laidMet prog Rows.storyBackUptoRow.laid ((Asc os [(4,Rows.laid_math_bits_deBruijn32tab),(5,Rows.laid_math_bits_deBruijn64tab),(3,Rows.laid_internal_strconv_uint64pow10),(2,Rows.laid_unicode_utf8_acceptRanges),(1,Rows.laid_unicode_utf8_first)]).forCall (λ _ _=>0) ⟨#[],#[.slice none 0 0,.slice none 0 0],[]⟩).memory:=
 laidMet_of_run' 8 (by kernel_rfl) (by kernel_rfl)
theorem Aac(os:Os){H:Type}(enc:TypeId×Value->H):∃places,DataW.whole enc prog ((Asc os [(4,Rows.laid_math_bits_deBruijn32tab),(5,Rows.laid_math_bits_deBruijn64tab),(3,Rows.laid_internal_strconv_uint64pow10),(2,Rows.laid_unicode_utf8_acceptRanges),(1,Rows.laid_unicode_utf8_first)]).forCall (λ _ _=>0) ⟨#[],#[.slice none 0 0,.slice none 0 0],[]⟩).memory Tryz.f4.params.toList Rows.storyBackSpec.vars false (#[.slice none 0 0,.slice none 0 0]:Array Value).toList 8=some ([.nil,.nil],[],places):=
 ⟨[],by kernel_rfl⟩
theorem storyBack_lifted(os:Os)(started:os.Started)(H:Type)(enc:TypeId×Value->H)(F:Stop.Interp):
   ReturnsInHanded {} Tryz.checked os 4 .any ((Rows.OpenSpec.upto Rows.storyBackSpec).preRow enc prog Tryz.f4 Rows.storyBackUptoRow.domain false Rows.storyBackUptoRow.laid) (((Rows.OpenSpec.upto Rows.storyBackSpec).at F).post enc prog Tryz.f4 false true false false):=by
 obtain ⟨places,hx⟩:=Aac os enc;refine returnsInHanded_of_row (C:=Tryz.checked) (s:=Rows.OpenSpec.upto Rows.storyBackSpec) own started (by kernel_rfl) func4
   (witness_row_at (enc:=enc) (C:=Tryz.checked) false (Asc os [(4,Rows.laid_math_bits_deBruijn32tab),(5,Rows.laid_math_bits_deBruijn64tab),(3,Rows.laid_internal_strconv_uint64pow10),(2,Rows.laid_unicode_utf8_acceptRanges),(1,Rows.laid_unicode_utf8_first)]) #[.slice none 0 0,.slice none 0 0] rfl (by kernel_rfl) (by kernel_rfl) (by kernel_rfl)
     (OpenSpec.preRow_of_cond 8 hx (by kernel_rfl) (λ k f=>by cases f;kernel_rfl) (by kernel_rfl) (VD os))) ?_
 intro W base args a gs before Rr e _ Bsc _ b _ _;exact VE H enc W base args a gs before Rr e (Bsc _ rfl) b
theorem storyBack_said:Rows.StoryBackUptoSaid:=
 OpenClaim.holds_of_cond 4 Tryz.f4 rfl rfl rfl rfl rfl rfl rfl ⟨rfl,rfl,rfl,rfl,rfl⟩ rfl rfl rfl rfl rfl (by kernel_rfl) func4 (by kernel_rfl)
   (of_decide_eq_true (by kernel_rfl)) (by unfold Func.isWrapper;first | (rw[if_pos (by decide+kernel)];kernel_rfl) | (rw[if_neg (by decide+kernel)];exact ⟨rfl,rfl⟩))
   (λ os started H enc _ F=>by rw[OpenClaim.pre_eq_preRow];exact storyBack_lifted os started H enc F)
theorem Aad(f:FuncId)(fn:Func)(hf:Tryz.pinned.checked.prog.funcNamed "blockway/blockwaylaw31.StoryBack" =some f)(hfn:Tryz.pinned.checked.prog.funcs[f]?=some fn):
   true=Tryz.pinned.checked.prog.looks []/\∀(j:Nat) t,fn.params[j]?=some t->Tryz.pinned.checked.prog.wantsStandIn t=false:=by
 obtain rfl:f=4:=Option.some.inj ((show prog.funcNamed "blockway/blockwaylaw31.StoryBack" =some 4 by kernel_rfl).symm.trans hf) |>.symm;obtain rfl:fn=Tryz.f4:=(Option.some.inj (func4.symm.trans hfn)).symm;refine ⟨by kernel_rfl,λ j t ht=>?_⟩;have FE:Tryz.f4.params.toList.all (λ t=>!Tryz.pinned.checked.prog.wantsStandIn t)=true:=by kernel_rfl
 have hm:=List.all_eq_true.1 FE t (Array.mem_toList_iff.2 (Array.mem_of_getElem? ht))
 simpa using hm
theorem storyBack_proved:Rows.StoryBackUptoCardSaid:=
 Claim7.holds_tied_plain_at .later [] _ _ _ _ storyBack_said (λ _ h=>by cases h) (by kernel_rfl) (λ _ h=>by cases h) storyBackUpto_row_tie rfl ⟨rfl,rfl⟩ (by kernel_rfl) rfl Aad (by kernel_rfl)
end Go.Proofs.YtlfbkkljgighkaaGreatDoor
end
