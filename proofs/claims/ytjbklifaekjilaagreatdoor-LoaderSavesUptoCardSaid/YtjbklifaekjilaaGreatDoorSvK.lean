/- LoaderSaves: whatever the network and the numbers of bulk at most 1048576, the law returns true and leaves its arguments as they were; the listed tables as the program's text lays them. -/
import Derived.Test.YtjbklifaekjilaaGreatDoorCards
import Derived.Test.YtjbklifaekjilaaGreatDoorTie
import Derived.Deep.DeepHandedRow
import Derived.ProofKit
import Derived.JoinedCond
import Derived.Test.YtjbklifaekjilaaGreatDoorSvJ
section
namespace Go.Proofs.YtjbklifaekjilaaGreatDoor
open Go.Am Go.ChangeShapes Go.WideShapes Go.ChangeAt Go.RowKit
set_option linter.unusedVariables false
set_option maxRecDepth 100000
theorem own:ownKnob Tryz.prog.godebug=none:=by kernel_rfl
mutual
theorem Akf {H:Type}:∀d:DataW H,ES (B3 d)≤Rows.uptoBulk d
  | .lit (.int k n)=>by simp[B3,ES,pdB,Rows.uptoBulk]
  | .lit (.bool b)=>by simp[B3,ES,pdB,Rows.uptoBulk]
  | .lit (.string l)=>by simp[B3,ES,pdB,Rows.uptoBulk]
  | .nil=>by simp[B3,ES,pdB,Nw,Rows.uptoBulk]
  | .slice elems spare=>by
    have:=Aov elems;simp only[B3,ES,pdB,Rows.uptoBulk];omega
  | .agg parts=>by
    have:=Aow parts;simp only[B3,Rows.uptoBulk];omega
  | .lit l=>by cases l<;>simp[B3,ES,pdB,Rows.uptoBulk]
  | .ptr d=>by simp[B3,ES]
  | .iface t d=>by simp[B3,ES]
  | .map entries=>by simp[B3,ES]
  | .held h=>by simp[B3,ES]
theorem Aov {H:Type}:∀es:List (DataW H),Nw (RR es)≤Rows.uptoBulkAll es
  | []=>by simp[RR,Nw]
  | d::r=>by
    have h1:=Akf d;have h2:=Aov r;simp only[RR,Nw,Rows.uptoBulkAll];omega
theorem Aow {H:Type}:∀es:List (DataW H),ES (HA es)≤Rows.uptoBulkAll es
  | []=>by simp[HA,ES]
  | d::r=>by
    have h1:=Akf d;have h2:=Aow r;simp only[HA,WD,Rows.uptoBulkAll];omega
end
theorem X0 {H:Type} (l r:List (DataW H)):Rows.uptoBulkAll (l++r)=Rows.uptoBulkAll l+Rows.uptoBulkAll r:=by
 induction l with
 | nil=>simp[Rows.uptoBulkAll]
 | cons x l ih=>simp only[List.cons_append,Rows.uptoBulkAll,ih];omega
theorem bound {H:Type} {l:List (DataW H)} (hk:Rows.uptoSmall H l=true):Rows.uptoBulkAll l≤1048576:=of_decide_eq_true hk
theorem Sd {n:Nat} {cs:List Pd} (h:QF Tryz.prog n 22 cs):∃l:List Int,cs=[.sl (Go.Am.Ag l)]:=by
 obtain ⟨m,es,rfl,HQ⟩:=b9 Tryz.underlying22 h;obtain ⟨l,rfl⟩:=Od (fun v:Int=>[Pd.int .i64 v]) es fun y hy=>by
   obtain ⟨v,h1,_⟩:=G9 Tryz.underlying3 (HQ y hy);exact ⟨v,h1⟩
 exact ⟨l,rfl⟩
def cellsOf:DataW Unit→List Value
  | .lit (.int k n)=>[.int k n]
  | .agg parts=>XW parts
  | _=>[]
where XW:List (DataW Unit)→List Value
  | []=>[]
  | d::r=>cellsOf d++XW r
noncomputable def Y8 (os:Os) (Afe:List (Nat×DataW Unit)):World:=
 let w0:=World.holding Tryz.prog os ⟨#[],#[],[]⟩
 {w0 with heap:=Afe.foldl (fun h x=>h.modify x.1 fun
     | .cells _ t frozen=> .cells (cellsOf x.2).toArray t frozen
     | o=>o) w0.heap}
end Go.Proofs.YtjbklifaekjilaaGreatDoor
end
section
namespace Go.Proofs.YtjbklifaekjilaaGreatDoor
open Go.Am Go.ChangeShapes Go.WideShapes Go.ChangeAt Go.RowKit
set_option maxRecDepth 100000
set_option linter.unusedVariables false
theorem Ajz {n:Nat} {cs:List Pd} (h:QF Tryz.prog n 28 cs):∃l:List (List Int),cs=[.sl (Go.Am.AM l)]:=by
 obtain ⟨m,es,rfl,HQ⟩:=b9 Tryz.underlying28 h;obtain ⟨l,rfl⟩:=Od (fun r:List Int=>[Pd.sl (Go.Am.Ag r)]) es fun y hy=>Sd (HQ y hy);exact ⟨l,rfl⟩
theorem Ak0 {n:Nat} {cs:List Pd} (h:QF Tryz.prog n 27 cs):∃l:List JN,cs=[.sl (Go.Am.Bi l)]:=by
 obtain ⟨m,es,rfl,HQ⟩:=b9 Tryz.underlying27 h;obtain ⟨l,rfl⟩:=Od (fun b:JN=>[Pd.str b.name,.int .i64 b.x,.int .i64 b.y]) es fun y hy=>by
   obtain ⟨m2,h1⟩:=Z9 Tryz.underlying76 (HQ y hy);obtain ⟨a1,b1,rfl,g1,a2,b2,rfl,g2,a3,b3,rfl,g3,rfl⟩:=h1;obtain ⟨nm,rfl⟩:=Af4 Tryz.underlying9 g1;obtain ⟨x,rfl,_⟩:=G9 Tryz.underlying3 g2;obtain ⟨z,rfl,_⟩:=G9 Tryz.underlying3 g3;exact ⟨⟨nm,x,z⟩,rfl⟩
 exact ⟨l,rfl⟩
theorem Ajy {n:Nat} {cs:List Pd} (h:QF Tryz.prog n 29 cs):∃l:List BY,cs=[.sl (Go.Am.Bh l)]:=by
 obtain ⟨m,es,rfl,HQ⟩:=b9 Tryz.underlying29 h;obtain ⟨l,rfl⟩:=Od (fun s:BY=>[Pd.str s.name,.bool s.A1,.int .i64 s.Ft,.int .i64 s.out,.int .i64 s.AH,.int .i64 s.base]) es fun y hy=>by
   obtain ⟨m2,h1⟩:=Z9 Tryz.underlying68 (HQ y hy);obtain ⟨a1,b1,rfl,g1,a2,b2,rfl,g2,a3,b3,rfl,g3,a4,b4,rfl,g4,a5,b5,rfl,g5,a6,b6,rfl,g6,rfl⟩:=h1;obtain ⟨nm,rfl⟩:=Af4 Tryz.underlying9 g1;obtain ⟨dp,rfl⟩:=Al7 Tryz.underlying4 g2;obtain ⟨x3,rfl,_⟩:=G9 Tryz.underlying3 g3;obtain ⟨x4,rfl,_⟩:=G9 Tryz.underlying3 g4;obtain ⟨x5,rfl,_⟩:=G9 Tryz.underlying3 g5;obtain ⟨x6,rfl,_⟩:=G9 Tryz.underlying3 g6;exact ⟨⟨nm,dp,x3,x4,x5,x6⟩,rfl⟩
 exact ⟨l,rfl⟩
theorem An6 {n:Nat} {cs:List Pd} (h:QF Tryz.prog n 33 cs):∃x:Nt,cs=[.sl (Go.Am.Bi x.blocks),.sl (Go.Am.AM x.next),.sl (Go.Am.Bh x.spurs),.sl (Go.Am.Ag x.Al),.int .i64 x.cq,.int .i64 x.ca,.int .i64 x.cd,.int .i64 x.cp]:=by
 obtain ⟨m,h1⟩:=Z9 Tryz.underlying33 h;obtain ⟨a1,b1,rfl,g1,a2,b2,rfl,g2,a3,b3,rfl,g3,a4,b4,rfl,g4,a5,b5,rfl,g5,rfl⟩:=h1;obtain ⟨bl,rfl⟩:=Ak0 g1;obtain ⟨nx,rfl⟩:=Ajz g2;obtain ⟨sp,rfl⟩:=Ajy g3;obtain ⟨rb,rfl⟩:=Sd g4;obtain ⟨m2,h2⟩:=Z9 Tryz.underlying31 g5;obtain ⟨c1,e1,rfl,f1,c2,e2,rfl,f2,c3,e3,rfl,f3,c4,e4,rfl,f4,rfl⟩:=h2;obtain ⟨x1,rfl,_⟩:=G9 Tryz.underlying3 f1;obtain ⟨x2,rfl,_⟩:=G9 Tryz.underlying3 f2;obtain ⟨x3,rfl,_⟩:=G9 Tryz.underlying3 f3;obtain ⟨x4,rfl,_⟩:=G9 Tryz.underlying3 f4;exact ⟨⟨bl,nx,sp,rb,x1,x2,x3,x4⟩,rfl⟩
theorem Ro (l:List Int):l.length≤Nw (Go.Am.Ag l):=(Kq (fun s:Int=>[Pd.int .i64 s]) (fun x=>by simp[ES,pdB]) l).1
theorem Ab0 (x:Nt) (h:ES [.sl (Go.Am.Bi x.blocks),.sl (Go.Am.AM x.next),.sl (Go.Am.Bh x.spurs),.sl (Go.Am.Ag x.Al),.int .i64 x.cq,.int .i64 x.ca,.int .i64 x.cd,.int .i64 x.cp]≤1048576):Dd x:=by
 simp only[ES,pdB] at h;have h1:x.blocks.length≤Nw (Go.Am.Bi x.blocks):=(Kq (fun b:JN=>[Pd.str b.name,.int .i64 b.x,.int .i64 b.y]) (fun x=>by simp only[ES,pdB];omega) x.blocks).1;have h3:x.spurs.length≤Nw (Go.Am.Bh x.spurs):=(Kq (fun s:BY=>[Pd.str s.name,.bool s.A1,.int .i64 s.Ft,.int .i64 s.out,.int .i64 s.AH,.int .i64 s.base]) (fun x=>by simp only[ES,pdB];omega) x.spurs).1;have h4:=Ro x.Al;have h2:x.next.length≤Nw (Go.Am.AM x.next)∧∀r∈x.next,ES [Pd.sl (Go.Am.Ag r)]≤Nw (Go.Am.AM x.next):=Kq (fun r:List Int=>[Pd.sl (Go.Am.Ag r)]) (fun x=>by simp only[ES,pdB];omega) x.next
 refine ⟨by omega,⟨by omega,fun r hr=>?_⟩,by omega,by omega⟩;have h5:=h2.2 r hr;have h6:=Ro r;simp only[ES,pdB] at h5;omega
theorem KC (H:Type) (enc:TypeId×Value→H) (W:World) (base:Nat) (args:Array Value) (ds gs:List (DataW H)) (before:List MemPlace)
   (FH:∀(j:Nat) t v,Tryz.f5.params[j]?=some t→args[j]?=some v→Value.okWide Tryz.prog W .any base t v)
   (hW:DataW.Whole enc Tryz.prog Tryz.f5.params.toList Rows.loaderSavesSpec.vars false W args.toList ds gs before) (hk:Rows.uptoSmall H (ds++gs)=true) (hL:laidMetH Tryz.prog Rows.loaderSavesUptoRow.laid W):
   Calls Tryz.prog 5 args W fun e W'=>∃v,e= .returned v∧Rows.loaderSavesSpec.post enc Tryz.prog Tryz.f5 false true false false W args v W':=by
 have Amk:Lib.TabIs Tryz.prog W "internal/strconv.uint64pow10" .u64 Lib.pow10Tab:=
   Wj (keep:=fun x=>x.1== "internal/strconv.uint64pow10") (g:=1) (t:=223) (e:=192) (n:=Lib.pow10Tab.length) hL (by kernel_rfl) (by kernel_rfl) (by kernel_rfl) (by kernel_rfl) (by kernel_rfl) (by kernel_rfl) (by kernel_rfl) (by kernel_rfl)
 have Ato:∀(M:Nat→Mb) s m,LZ (fun b=>b<W.heap.size) W M s m (.BK 1 Hc):=fun M s m=>Aff (by kernel_rfl) (Apf (by kernel_rfl) Amk) Amk;have ht:Tryz.f5.params.toList.all (CM Tryz.prog 30)=true:=by kernel_rfl
 have hb:=bound hk;rw[X0] at hb;obtain ⟨p,q,hA,hV,rfl,hfz,hnd⟩:=hW;obtain ⟨hl,hwt⟩:=Wh ht hA;have RE:ds.length=2:=hl;obtain ⟨d1,d2,rfl⟩:∃d1 d2,ds=[d1,d2]:=by
   match ds,RE with
   | [d1,d2],_=>exact ⟨d1,d2,rfl⟩
 simp only[Rows.uptoBulkAll] at hb;obtain ⟨raw,h1⟩:=An6 (hwt 0 33 d1 rfl rfl);obtain ⟨l,h2⟩:=Sd (hwt 1 22 d2 rfl rfl);have Ou:=Akf d1;rw[h1] at Ou;have Zq:Dd raw:=Ab0 raw (by omega);have a1:Ta Tryz.prog 33 d1= .agg raw.cs:=by unfold Ta;rw[if_pos (by kernel_rfl),h1];rfl
 have a2:Ta Tryz.prog 22 d2= .p (.sl (Go.Am.Ag l)):=by unfold Ta Anj;rw[show Anm Tryz.prog 22=false by kernel_rfl,if_neg (by decide),h2];rfl
 refine Y7 [(1,Hc)] FH ⟨p,q,hA,hV,rfl,hfz,hnd⟩ rfl ht rfl Tryz.underlying4 rfl r6 (fun x hx=>by simp only[List.mem_singleton] at hx;subst hx;exact Ato) [(1000000,.BK 1 Hc)] rfl ?_
 show Aj Tryz.prog 5 [Ta Tryz.prog 33 d1,Ta Tryz.prog 22 d2] _ _
 rw[a1,a2];exact (Rg raw l Zq).mono fun _ _ h=>h.2
theorem KB (os:Os):laidMet Tryz.prog Rows.loaderSavesUptoRow.laid ((Y8 os [(4,Rows.laid_math_bits_deBruijn32tab),(5,Rows.laid_math_bits_deBruijn64tab),(1,Rows.laid_internal_strconv_uint64pow10),(3,Rows.laid_unicode_utf8_acceptRanges),(2,Rows.laid_unicode_utf8_first)]).forCall (fun _ _=>0) ⟨#[],#[.agg #[.slice none 0 0,.slice none 0 0,.slice none 0 0,.slice none 0 0,.int .i64 0,.int .i64 0,.int .i64 0,.int .i64 0],.slice none 0 0],[]⟩).memory:=
 laidMet_of_run' 8 (by kernel_rfl) (by kernel_rfl)
theorem NC (os:Os) {H:Type} (enc:TypeId×Value→H):∃places,DataW.whole enc Tryz.prog ((Y8 os [(4,Rows.laid_math_bits_deBruijn32tab),(5,Rows.laid_math_bits_deBruijn64tab),(1,Rows.laid_internal_strconv_uint64pow10),(3,Rows.laid_unicode_utf8_acceptRanges),(2,Rows.laid_unicode_utf8_first)]).forCall (fun _ _=>0) ⟨#[],#[.agg #[.slice none 0 0,.slice none 0 0,.slice none 0 0,.slice none 0 0,.int .i64 0,.int .i64 0,.int .i64 0,.int .i64 0],.slice none 0 0],[]⟩).memory Tryz.f5.params.toList Rows.loaderSavesSpec.vars false (#[.agg #[.slice none 0 0,.slice none 0 0,.slice none 0 0,.slice none 0 0,.int .i64 0,.int .i64 0,.int .i64 0,.int .i64 0],.slice none 0 0]:Array Value).toList 8=some ([.agg [.nil,.nil,.nil,.nil,.agg [.lit (.int .i64 0),.lit (.int .i64 0),.lit (.int .i64 0),.lit (.int .i64 0)]],.nil],[],places):=
 ⟨[],by kernel_rfl⟩
theorem loaderSaves_lifted (os:Os) (started:os.Started) (H:Type) (enc:TypeId×Value→H) (F:Stop.Interp):
   ReturnsInHanded {} Tryz.checked os 5 .any ((Rows.OpenSpec.upto Rows.loaderSavesSpec).preRow enc Tryz.prog Tryz.f5 Rows.loaderSavesUptoRow.domain false Rows.loaderSavesUptoRow.laid) (((Rows.OpenSpec.upto Rows.loaderSavesSpec).at F).post enc Tryz.prog Tryz.f5 false true false false):=by
 obtain ⟨places,hx⟩:=NC os enc;refine returnsInHanded_of_row (C:=Tryz.checked) (s:=Rows.OpenSpec.upto Rows.loaderSavesSpec) own started (by kernel_rfl) Tryz.func5
   (witness_row_at (enc:=enc) (C:=Tryz.checked) false (Y8 os [(4,Rows.laid_math_bits_deBruijn32tab),(5,Rows.laid_math_bits_deBruijn64tab),(1,Rows.laid_internal_strconv_uint64pow10),(3,Rows.laid_unicode_utf8_acceptRanges),(2,Rows.laid_unicode_utf8_first)]) #[.agg #[.slice none 0 0,.slice none 0 0,.slice none 0 0,.slice none 0 0,.int .i64 0,.int .i64 0,.int .i64 0,.int .i64 0],.slice none 0 0] rfl (by kernel_rfl) (by kernel_rfl) (by kernel_rfl)
     (OpenSpec.preRow_of_cond 8 hx (by kernel_rfl) (fun k hk=>by cases hk;kernel_rfl) (by kernel_rfl) (KB os))) ?_
 intro W base args ds gs before FH hW _ Atv _ hL _ _;exact KC H enc W base args ds gs before FH hW (Atv _ rfl) hL
theorem loaderSaves_said:Rows.LoaderSavesUptoSaid:=
 OpenClaim.holds_of_cond 5 Tryz.f5 rfl rfl rfl rfl rfl rfl rfl ⟨rfl,rfl,rfl,rfl,rfl⟩ rfl rfl rfl rfl rfl (by kernel_rfl) Tryz.func5 (by kernel_rfl)
   (of_decide_eq_true (by kernel_rfl)) (by unfold Func.isWrapper;first | (rw[if_pos (by decide+kernel)];kernel_rfl) | (rw[if_neg (by decide+kernel)];exact ⟨rfl,rfl⟩))
   (fun os started H enc _ F=>by rw[OpenClaim.pre_eq_preRow];exact loaderSaves_lifted os started H enc F)
theorem ND (f:FuncId) (fn:Func) (hf:Tryz.pinned.checked.prog.funcNamed "blockway/blockwaylaw11.LoaderSaves" =some f) (hfn:Tryz.pinned.checked.prog.funcs[f]?=some fn):
   false=Tryz.pinned.checked.prog.looks []∧∀(j:Nat) t,fn.params[j]?=some t→Tryz.pinned.checked.prog.wantsStandIn t=false:=by
 obtain rfl:f=5:=Option.some.inj ((show Tryz.prog.funcNamed "blockway/blockwaylaw11.LoaderSaves" =some 5 by kernel_rfl).symm.trans hf) |>.symm;obtain rfl:fn=Tryz.f5:=(Option.some.inj (Tryz.func5.symm.trans hfn)).symm;refine ⟨by kernel_rfl,fun j t ht=>?_⟩;have B4:Tryz.f5.params.toList.all (fun t=>!Tryz.pinned.checked.prog.wantsStandIn t)=true:=by kernel_rfl
 have hm:=List.all_eq_true.1 B4 t (Array.mem_toList_iff.2 (Array.mem_of_getElem? ht))
 simpa using hm
theorem loaderSaves_proved:Rows.LoaderSavesUptoCardSaid:=
 Claim7.holds_tied_plain_at .later [] _ _ _ _ loaderSaves_said (fun _ h=>by cases h) (by kernel_rfl) (fun _ h=>by cases h) loaderSavesUpto_row_tie rfl ⟨rfl,rfl⟩ (by kernel_rfl) rfl ND (by kernel_rfl)
end Go.Proofs.YtjbklifaekjilaaGreatDoor
end
