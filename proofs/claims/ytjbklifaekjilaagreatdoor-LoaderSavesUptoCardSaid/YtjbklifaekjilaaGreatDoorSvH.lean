/- Texts of this proof, what it rests on, merged: part H. -/
import Derived.Lib.Builder
import Derived.Lib.UnsafeStr
import Derived.Tactics
import Derived.Tactics2
import Derived.Test.YtjbklifaekjilaaGreatDoorSvG
section
namespace Go.Am
open Go Go.Proofs Go.RowKit
set_option maxRecDepth 100000
set_option linter.unusedVariables false
set_option linter.unusedSimpArgs false
set_option maxHeartbeats 2000000
theorem X3:∃j,Tryz.prog.info? 142=some j∧j.size=2:=by
 obtain ⟨i,u,z,hi,hu,hz,e⟩:=Az Aoa;simp only[TI.mk.injEq] at e;exact ⟨i,hi,e.1.symm⟩
theorem Pk (b:Nat) (w:World) (h0:w.cell? ⟨b,0,none⟩=some (.pointer (some ⟨b,0,none⟩))):
   Calls Tryz.prog 132 #[.pointer (some ⟨b,0,none⟩)] w fun e w'=>e= .returned (.tuple #[])∧w'=w:=by
 obtain ⟨j,hj,_⟩:=X3
 go_enter Tryz.func132,Tryz.ntmps132
 go_wp2
 rw[Lib.run_neq_ptr_same w _ Tryz.underlying140 hj]
 go_wp2
 go_end0
 exact ⟨rfl,rfl⟩
theorem Oe (b:Nat) (w:World) (h0:w.cell? ⟨b,0,none⟩=some (.pointer none)) (FJ:w.shape? b=some (142,2)) (hfz:w.frozen? ⟨b,0,none⟩=false):
   Calls Tryz.prog 132 #[.pointer (some ⟨b,0,none⟩)] w fun e w'=>e= .returned (.tuple #[])∧w'=w.setCell ⟨b,0,none⟩ (.pointer (some ⟨b,0,none⟩)):=by
 obtain ⟨j,hj,hjs⟩:=X3
 go_enter Tryz.func132,Tryz.ntmps132
 go_wp2
 rw[Lib.run_to_unsafe w ⟨b,0,none⟩ Tryz.underlying140 Tryz.underlying197 hj (by rw[hjs];decide) FJ (Nat.zero_lt_succ 1)];simp only[Result.andThen];rw[Oper.upon_value]
 go_wp2
 rw[run_callFunc_extern Tryz.func161 (by kernel_rfl) (by kernel_rfl) (by kernel_rfl) (e:=Extern.AbiNoEscape.same) (by kernel_rfl)];rw[Lib.run_noEscape];simp only[Result.andThen];rw[Oper.upon_value]
 go_wp2
 rw[Lib.run_from_unsafe w ⟨b,0,none⟩ Tryz.underlying197 Tryz.underlying140 hj FJ (by kernel_rfl)];simp only[Result.andThen];rw[Oper.upon_value]
 go_wp2
 go_end0
 exact ⟨rfl,rfl⟩
theorem Aeh (b g n cap:Nat) (p:Value) (l:List UInt8) (cur:Array Value) (T:TypeId) (w:World) (fr:Nat×Nat) (hb:w.heap[b]?=some (.cells #[p,.slice (some ⟨g,0,none⟩) n cap] T (0,0))) (hn:n=l.length) (h0:l≠[])
   (hg:w.heap[g]?=some (.cells cur 5 fr)) (hc:n≤cap) (hcm:cap≤maxLen) (Zz:cur.size=cap) (Bd:∀(j:Nat) (x:UInt8),l[j]?=some x→cur[j]?=some (Value.int .u8 x.toNat)):
   Calls Tryz.prog 98 #[.pointer (some ⟨b,0,none⟩)] w fun e w'=>e= .returned (.string ⟨l.toArray⟩)∧w'=w.drew.freeze ⟨g,0,none⟩ l.length:=by
 subst hn;have hl0:l.length≠0:=by simpa using h0
 have c1:w.drew.cell? ⟨b,1,none⟩=some (.slice (some ⟨g,0,none⟩) l.length cap):=by
   have:w.drew.heap[b]?=some (.cells #[p,.slice (some ⟨g,0,none⟩) l.length cap] T (0,0)):=hb;rw[Lib.cell_of_heap this];rfl
 have hg':w.drew.heap[g]?=some (.cells cur 5 fr):=hg;have hSD:(Builtin.unsafeSliceData_ #[72] 176 #[.slice (some ⟨g,0,none⟩) l.length cap]).run Tryz.prog w.drew= .ok (.pointer (some ⟨g,0,none⟩)) w.drew:=
   Lib.run_unsafeSliceData_row _ _ _ _ _ _ (by omega)
 have hUS:(Builtin.unsafeString_ #[176,3] 9 #[.pointer (some ⟨g,0,none⟩),.int .i64 l.length]).run Tryz.prog w.drew= .ok (.string ⟨l.toArray⟩) (w.drew.freeze ⟨g,0,none⟩ l.length):=by
   refine Lib.run_unsafeString_row w.drew 176 3 9 5 Tryz.underlying176 (by kernel_rfl) g cur.size (by simp[World.shape?,hg']) l h0 (by omega) (by unfold maxLen at hcm;omega) ?_;intro j x hx;have AL:=(List.getElem?_eq_some_iff.1 hx).1;rw[Addr.add_lit];simp only[World.cell?,hg',Nat.zero_add];exact Bd j x hx
 have Aqh:=mixed
 go_enter Tryz.func98,Tryz.ntmps98
 go_wp2
 go_region_o
 all_goals (go_wp2;go_ret;exact ⟨rfl,rfl⟩)
theorem S9 (b:Nat) (p:Value) (T:TypeId) (w:World) (hb:w.heap[b]?=some (.cells #[p,.slice none 0 0] T (0,0))):
   Calls Tryz.prog 98 #[.pointer (some ⟨b,0,none⟩)] w fun e w'=>e= .returned (.string ⟨#[]⟩)∧w'=w.drew:=by
 have c1:w.drew.cell? ⟨b,1,none⟩=some (.slice none 0 0):=by
   have:w.drew.heap[b]?=some (.cells #[p,.slice none 0 0] T (0,0)):=hb;rw[Lib.cell_of_heap this];rfl
 have hSD:(Builtin.unsafeSliceData_ #[72] 176 #[.slice none 0 0]).run Tryz.prog w.drew= .ok (.pointer none) w.drew:=Lib.run_unsafeSliceData_nil _ _ _ _ _;have hUS:(Builtin.unsafeString_ #[176,3] 9 #[.pointer none,.int .i64 0]).run Tryz.prog w.drew= .ok (.string .empty) w.drew:=Lib.run_unsafeString_none _ _ _ _ _;have Aqh:=mixed
 go_enter Tryz.func98,Tryz.ntmps98
 go_wp2
 go_region_o
 all_goals (go_wp2;go_ret;exact ⟨rfl,rfl⟩)
theorem X5 {h:Hp} {x:D} {T:TypeId} (hg:get h base=some (.box [.ptr base 0,x] T)):Aj Tryz.prog 132 [.ptr base 0] h fun h' r=>h'=h∧r= .BA []:=
 MZ Uc hg Pk
theorem VL:Aj Tryz.prog 132 [.ptr base 0] [(base,.box [.np,.cl []] 142)] fun h' r=>h'=[(base,.box [.ptr base 0,.cl []] 142)]∧r= .BA []:=
 L0 (x:= .np) Uc (by decide) Oe
theorem ZS {T:TypeId} {l:List UInt8} {px:D} (hl:l≠[]):Aj Tryz.prog 98 [.ptr base 0] [(base,.box [px,.ref (base+1) 0 l.length l.length] T),(base+1,.arr 5 1 (Co l))]
     fun h' r=>h'=[(base,.box [px,.ref (base+1) 0 l.length l.length] T),(base+1,.J3 1 (Co l))]∧r= .p (.str l):=
 SD Xl hl fun b g n cap p cur T w fr hb hn hg hc hcm Zz Bd=>Aeh b g n cap p l cur T w fr hb hn hl hg hc hcm Zz Bd
theorem X2 {T:TypeId} (hT:T≠0):Aj Tryz.prog 98 [.ptr base 0] [(base,.box [.np,.cl []] T)] fun h' r=>h'=[(base,.box [.np,.cl []] T)]∧r= .p (.str []):=
 MY Xl hT S9
end Go.Am
end
section
namespace Go.Am
open Go Go.Proofs
set_option maxRecDepth 100000
set_option linter.unusedVariables false
set_option linter.unusedSimpArgs false
set_option maxHeartbeats 2000000
theorem Aju (l s:List UInt8):Co (l++s)=Co l++Co s:=by simp[Co]
theorem As4 (s:List UInt8):I1 1 (Co s):=by simp[I1,Co]
theorem Av6:I1 1 []:=by simp[I1]
theorem VJ (s:List UInt8) (hs:s≠[]) (hl:s.length≤1000000000):Aj Tryz.prog 95 [.ptr 1000000 0,.p (.str s)] [(1000000,.box [.np,.cl []] 142)]
   fun h r=>h=[(1000000,.box [.ptr 1000000 0,.ref 0 0 s.length s.length] 142),(0,.arr 5 1 (Co s))]∧r= .BA [.p (.int .i64 s.length),.bad]:=by
 refine Ak Tryz.func95 rfl Xm (by simp[Tryz.f95]) ?_;have he:Co s≠[]:=by simpa [Co] using hs
 simp only[go_sem];refine Au VL ?_;rintro h' r ⟨rfl,rfl⟩;simp only[go_sem,DI,he];refine ⟨⟨As4 s,Av6,by omega⟩,Bc ?_⟩;simp only[go_sem,DI]
theorem XZ (l s:List UInt8) (hl:l.length+s.length≤1000000000):Aj Tryz.prog 95 [.ptr 1000000 0,.p (.str s)] [(1000000,.box [.ptr 1000000 0,.ref 1000001 0 l.length l.length] 142),(1000001,.arr 5 1 (Co l))]
   fun h r=>h=[(1000000,.box [.ptr 1000000 0,.ref 1000001 0 (l++s).length (l++s).length] 142),(1000001,.arr 5 1 (Co (l++s)))]∧r= .BA [.p (.int .i64 s.length),.bad]:=by
 refine Ak Tryz.func95 rfl Xm (by simp[Tryz.f95]) ?_;simp only[go_sem];refine Au (X5 rfl) ?_;rintro h' r ⟨rfl,rfl⟩;simp only[go_sem,DI];refine ⟨⟨As4 s,by omega⟩,?_⟩;simp only[←Aju,DI];refine Bc ?_;simp only[go_sem,DI]
end Go.Am
end
section
namespace Go.Am
open Go Go.Proofs Go.RowKit
set_option maxRecDepth 100000
set_option linter.unusedVariables false
set_option linter.unusedSimpArgs false
set_option maxHeartbeats 2000000
theorem Zg (fs:List (List UInt8)):Lib.join fs [32]=Cg fs:=by
 cases fs with
 | nil=>rfl
 | cons x r=>simp[Lib.join_cons,Lib.joinTail,Cg,List.flatMap]
theorem WR (fs:List (List UInt8)) (BC:fs≠[]) (hl:fs.length≤100000000) (hs:HN fs≤1000000000000):Aj Tryz.prog 97 [.p (.sl (AV fs)),.p (.str [32])] [] fun h r=>h=[]∧r= .p (.str (Cg fs)):=by
 refine JO Ai5 fun vs w F M _ M7 hd=>?_;obtain ⟨a,b,rfl,ha,hb⟩:=Vw hd;rw[ZM hb];have hlen:=Ha fs BC;cases ha with
 | p ha=>
 have DT:0<fs.length:=List.length_pos_iff.2 BC;obtain ⟨xs,Fk⟩:∃xs:List ByteArray,xs=fs.map fun s=>⟨s.toArray⟩:=⟨_,rfl⟩;have W0:xs.length=fs.length:=by rw[Fk,List.length_map]
 have hxj:∀(j:Nat) x,xs[j]?=some x→∃s,fs[j]?=some s∧x=⟨s.toArray⟩:=by
   intro j x hx;rw[Fk,List.getElem?_map] at hx;cases hj:fs[j]? with
   | none=>rw[hj] at hx;cases hx
   | some s=>rw[hj] at hx;cases hx;exact ⟨s,rfl,rfl⟩
 have e2:xs.map (fun x=>x.data.toList)=fs:=by rw[Fk];simp[Function.comp_def]
 clear Fk;obtain ⟨sep,Aq9⟩:∃sep:ByteArray,sep=⟨[32].toArray⟩:=⟨_,rfl⟩;have hsl:sep.data.toList=[32]:=by rw[Aq9]
 have hjw:Lib.join (xs.map (fun x=>x.data.toList)) sep.data.toList=Cg fs:=by rw[e2,hsl,Zg]
 rw[←Aq9];clear Aq9;have key:∀(es:List (List Pd)),es=AV fs→PR F w (.sl es) a→Calls Tryz.prog 97 #[a,.string sep] w fun e w'=>∃v,e= .returned v∧PR (fun _=>False) w' (.str (Cg fs)) v∧Below w.heap.size w w':=by
   intro es he ha;cases ha with
   | Tk a cap=>
     have:=congrArg List.length he;rw[Aq] at this;simp at this;omega
   | sl _ bk off cap sz row t fr hF hh hc CD hi hp=>
     have hel:es.length=xs.length:=by rw[he,Aq,W0]
     have HQ:∀(j:Nat) s,fs[j]?=some s→es[j]?=some [.str s]:=fun j s h=>by rw[he];simp[AV,h]
     have Awk:sz=1:=by
       have h0:fs[0]?=some (fs[0]'DT):=List.getElem?_eq_getElem DT;have:=CD 0 _ (HQ 0 _ h0)
       simpa using this.symm
     subst Awk;clear he;have h1:∀(j:Nat) x,xs[j]?=some x→w.cell? ⟨bk,off+j,none⟩=some (.string x):=by
       intro j x hx;obtain ⟨s,hs,rfl⟩:=hxj j x hx;have h1:=hi j [.str s] 0 (.str s) (HQ j s hs) rfl;have h2:=hp j [.str s] 0 (.str s) (HQ j s hs) rfl;rw[Nat.mul_one,Nat.add_zero] at h1 h2;rw[Array.getD_eq_getD_getElem?,Array.getElem?_eq_getElem h1] at h2;have h3:w.cell? ⟨bk,off+j,none⟩=row[off+j]?:=by simp only[World.cell?,hh];rfl
       rw[h3,Array.getElem?_eq_getElem h1];simp only[Option.getD_some] at h2;generalize row[off+j]=y at h2;cases h2;rfl
     rw[hel] at hc ⊢;have h5:=Tryz.strings_Join bk off cap xs sep w h1 (M7 bk hF) (by omega) hc (by rw[hjw];omega);rw[hjw] at h5;refine h5.mono ?_;rintro e w' ⟨rfl,hb⟩;exact ⟨_,rfl,.str _,hb⟩
 exact key _ rfl ha
end Go.Am
end
