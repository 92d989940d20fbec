/- Texts of this proof, what it rests on, merged: part H. -/
import Derived.Lib.Builder
import Derived.Lib.UnsafeStr
import Derived.Tactics
import Derived.Tactics2
import Derived.Test.YtjbklifaekjilaaGreatDoorCqG
noncomputable section
namespace Go.Am
open Go Go.Proofs Go.RowKit
open Tryz
set_option maxRecDepth 100000
set_option linter.unusedVariables false
set_option linter.unusedSimpArgs false
set_option maxHeartbeats 2000000
theorem Zs:∃j,prog.info? 142=some j/\j.size=2:=by
 obtain ⟨i,u,z,hi,hu,hz,e⟩:=B4 Aqp;simp only[TI.mk.injEq] at e;exact ⟨i,hi,e.1.symm⟩
theorem QJ(b:Nat)(w:World)(h0:w.cell? ⟨b,0,none⟩=some (.pointer (some ⟨b,0,none⟩))):
   Calls prog 132 #[.pointer (some ⟨b,0,none⟩)] w λ e w'=>e= .returned (.tuple #[])/\w'=w:=by
 obtain ⟨j,hj,_⟩:=Zs
 go_enter func132,ntmps132
 go_wp2
 rw[Lib.run_neq_ptr_same w _ underlying140 hj]
 go_wp2
 go_end0
 exact ⟨rfl,rfl⟩
theorem PA(b:Nat)(w:World)(h0:w.cell? ⟨b,0,none⟩=some (.pointer none))(Jn:w.shape? b=some (142,2))(hfz:w.frozen? ⟨b,0,none⟩=false):
   Calls prog 132 #[.pointer (some ⟨b,0,none⟩)] w λ e w'=>e= .returned (.tuple #[])/\w'=w.setCell ⟨b,0,none⟩ (.pointer (some ⟨b,0,none⟩)):=by
 obtain ⟨j,hj,hjs⟩:=Zs
 go_enter func132,ntmps132
 go_wp2
 rw[Lib.run_to_unsafe w ⟨b,0,none⟩ underlying140 underlying197 hj (by rw[hjs];decide) Jn (Nat.zero_lt_succ 1)];simp only[Result.andThen];rw[Oper.upon_value]
 go_wp2
 rw[run_callFunc_extern func161 (by kernel_rfl) (by kernel_rfl) (by kernel_rfl) (e:=Extern.AbiNoEscape.same) (by kernel_rfl)];rw[Lib.run_noEscape];simp only[Result.andThen];rw[Oper.upon_value]
 go_wp2
 rw[Lib.run_from_unsafe w ⟨b,0,none⟩ underlying197 underlying140 hj Jn (by kernel_rfl)];simp only[Result.andThen];rw[Oper.upon_value]
 go_wp2
 go_end0
 exact ⟨rfl,rfl⟩
theorem Ags(b g n cap:Nat)(p:Value)(l:List UInt8)(cur:Array Value)(T:TypeId)(w:World)(fr:Nat×Nat)(hb:w.heap[b]?=some (.cells #[p,.slice (some ⟨g,0,none⟩) n cap] T (0,0)))(hn:n=l.length)(h0:l≠[])
   (hg:w.heap[g]?=some (.cells cur 5 fr)) (hc:n<=cap) (hcm:cap<=maxLen) (u6:cur.size=cap) (CK:∀(j:Nat) (x:UInt8),l[j]?=some x->cur[j]?=some (Value.int .u8 x.toNat)):
   Calls prog 98 #[.pointer (some ⟨b,0,none⟩)] w λ e w'=>e= .returned (.string ⟨l.toArray⟩)/\w'=w.drew.freeze ⟨g,0,none⟩ l.length:=by
 subst hn;have hl0:l.length≠0:=by simpa using h0
 have c1:w.drew.cell? ⟨b,1,none⟩=some (.slice (some ⟨g,0,none⟩) l.length cap):=by
   have:w.drew.heap[b]?=some (.cells #[p,.slice (some ⟨g,0,none⟩) l.length cap] T (0,0)):=hb;rw[Lib.cell_of_heap this];rfl
 have hg':w.drew.heap[g]?=some (.cells cur 5 fr):=hg;have hSD:(Builtin.unsafeSliceData_ #[72] 176 #[.slice (some ⟨g,0,none⟩) l.length cap]).run prog w.drew= .ok (.pointer (some ⟨g,0,none⟩)) w.drew:=
   Lib.run_unsafeSliceData_row _ _ _ _ _ _ (by omega)
 have hUS:(Builtin.unsafeString_ #[176,3] 9 #[.pointer (some ⟨g,0,none⟩),.int .i64 l.length]).run prog w.drew= .ok (.string ⟨l.toArray⟩) (w.drew.freeze ⟨g,0,none⟩ l.length):=by
   refine Lib.run_unsafeString_row w.drew 176 3 9 5 underlying176 (by kernel_rfl) g cur.size (by simp[World.shape?,hg']) l h0 (by omega) (by unfold maxLen at hcm;omega) ?_;intro j x hx;have Cj:=(An.1 hx).1;rw[Addr.add_lit];simp only[World.cell?,hg',A0];exact CK j x hx
 have At0:=mixed
 go_enter func98,ntmps98
 go_wp2
 go_region_o
 all_goals (go_wp2;go_ret;exact ⟨rfl,rfl⟩)
theorem Uy(b:Nat)(p:Value)(T:TypeId)(w:World)(hb:w.heap[b]?=some (.cells #[p,.slice none 0 0] T (0,0))):
   Calls prog 98 #[.pointer (some ⟨b,0,none⟩)] w λ e w'=>e= .returned (.string ⟨#[]⟩)/\w'=w.drew:=by
 have c1:w.drew.cell? ⟨b,1,none⟩=some (.slice none 0 0):=by
   have:w.drew.heap[b]?=some (.cells #[p,.slice none 0 0] T (0,0)):=hb;rw[Lib.cell_of_heap this];rfl
 have hSD:(Builtin.unsafeSliceData_ #[72] 176 #[.slice none 0 0]).run prog w.drew= .ok (.pointer none) w.drew:=Lib.run_unsafeSliceData_nil _ _ _ _ _;have hUS:(Builtin.unsafeString_ #[176,3] 9 #[.pointer none,.int .i64 0]).run prog w.drew= .ok (.string .empty) w.drew:=Lib.run_unsafeString_none _ _ _ _ _;have At0:=mixed
 go_enter func98,ntmps98
 go_wp2
 go_region_o
 all_goals (go_wp2;go_ret;exact ⟨rfl,rfl⟩)
theorem Zu{h:Hp}{x:D}{T:TypeId}(hg:get h base=some (.box [.ptr base 0,x] T)):BV prog 132 [.ptr base 0] h λ h' r=>h'=h/\r= .De []:=
 Oq Vw hg QJ
theorem Xj:BV prog 132 [.ptr base 0] [(base,.box [.np,.cl []] 142)] λ h' r=>h'=[(base,.box [.ptr base 0,.cl []] 142)]/\r= .De []:=
 Ni (x:= .np) Vw (by decide) PA
theorem Aa8{T:TypeId}{l:List UInt8}{px:D}(hl:l≠[]):BV prog 98 [.ptr base 0] [(base,.box [px,.ref (base+1) 0 l.length l.length] T),(base+1,.arr 5 1 (DX l))]
     λ h' r=>h'=[(base,.box [px,.ref (base+1) 0 l.length l.length] T),(base+1,.Lo 1 (DX l))]/\r= .p (.str l):=
 TV YO hl λ b g n cap p cur T w fr hb hn hg hc hcm u6 CK=>Ags b g n cap p l cur T w fr hb hn hl hg hc hcm u6 CK
theorem Zr{T:TypeId}(hT:T≠0):BV prog 98 [.ptr base 0] [(base,.box [.np,.cl []] T)] λ h' r=>h'=[(base,.box [.np,.cl []] T)]/\r= .p (.str []):=
 Oo YO hT Uy
end Go.Am
end
noncomputable section
namespace Go.Am
open Go Go.Proofs
open Tryz
set_option maxRecDepth 100000
set_option linter.unusedVariables false
set_option linter.unusedSimpArgs false
set_option maxHeartbeats 2000000
theorem Am2(l s:List UInt8):DX (l++s)=DX l++DX s:=by simp[DX]
theorem Aun(s:List UInt8):Ly 1 (DX s):=by simp[Ly,DX]
theorem Axr:Ly 1 []:=by simp[Ly]
theorem Xh(s:List UInt8)(hs:s≠[])(hl:s.length<=1000000000):BV prog 95 [.ptr 1000000 0,.p (.str s)] [(1000000,.box [.np,.cl []] 142)]
   λ h r=>h=[(1000000,.box [.ptr 1000000 0,.ref 0 0 s.length s.length] 142),(0,.arr 5 1 (DX s))]/\r= .De [.p (.int .i64 s.length),.bad]:=by
 refine BX func95 rfl YP (by simp[Tryz.f95]) ?_;have he:DX s≠[]:=by simpa [DX] using hs
 simp only[go_sem];refine Cq Xj ?_;simp only[go_sem,FJ,he];refine ⟨⟨Aun s,Axr,by omega⟩,CR ?_⟩;simp only[go_sem,FJ]
theorem Zo(l s:List UInt8)(hl:l.length+s.length<=1000000000):BV prog 95 [.ptr 1000000 0,.p (.str s)] [(1000000,.box [.ptr 1000000 0,.ref 1000001 0 l.length l.length] 142),(1000001,.arr 5 1 (DX l))]
   λ h r=>h=[(1000000,.box [.ptr 1000000 0,.ref 1000001 0 (l++s).length (l++s).length] 142),(1000001,.arr 5 1 (DX (l++s)))]/\r= .De [.p (.int .i64 s.length),.bad]:=by
 refine BX func95 rfl YP (by simp[Tryz.f95]) ?_;simp only[go_sem];refine Cq (Zu rfl) ?_;simp only[go_sem,FJ];refine ⟨⟨Aun s,by omega⟩,?_⟩;simp only[<-Am2,FJ];refine CR ?_;simp only[go_sem,FJ]
end Go.Am
end
noncomputable section
namespace Go.Am
open Go Go.Proofs Go.RowKit
open Tryz
set_option maxRecDepth 100000
set_option linter.unusedVariables false
set_option linter.unusedSimpArgs false
set_option maxHeartbeats 2000000
theorem p6(fs:List (List UInt8)):Lib.join fs [32]=Fp fs:=by
 cases fs with
 | nil=>rfl
 | cons x r=>simp[Lib.join_cons,Lib.joinTail,Fp,List.flatMap]
theorem Yl(fs:List (List UInt8))(Dn:fs≠[])(hl:fs.length<=100000000)(hs:PW fs<=1000000000000):BV prog 97 [.p (.sl (CD fs)),.p (.str [32])] [] λ h r=>h=[]/\r= .p (.str (Fp fs)):=by
 refine Lc Akf λ vs w F M _ Ow hd=>?_;obtain ⟨a,b,rfl,ha,hb⟩:=W3 hd;rw[Aa0 hb];have hlen:=Nz fs Dn;cases ha with
 | p ha=>
 have FE:0<fs.length:=List.length_pos_iff.2 Dn;obtain ⟨xs,Hn⟩:∃xs:List ByteArray,xs=fs.map λ s=>⟨s.toArray⟩:=⟨_,rfl⟩;have Yv:xs.length=fs.length:=by rw[Hn,A6]
 have hxj:∀(j:Nat) x,xs[j]?=some x->∃s,fs[j]?=some s/\x=⟨s.toArray⟩:=by
   intro j x hx;rw[Hn,AP] at hx;cases hj:fs[j]? with
   | none=>rw[hj] at hx;cases hx
   | some s=>rw[hj] at hx;cases hx;exact ⟨s,rfl,rfl⟩
 have e2:xs.map (λ x=>x.data.toList)=fs:=by rw[Hn];simp[Function.comp_def]
 clear Hn;obtain ⟨sep,Ass⟩:∃sep:ByteArray,sep=⟨[32].toArray⟩:=⟨_,rfl⟩;have r7:sep.data.toList=[32]:=by rw[Ass]
 have hjw:Lib.join (xs.map (λ x=>x.data.toList)) sep.data.toList=Fp fs:=by rw[e2,r7,p6]
 rw[<-Ass];clear Ass;have key:∀(es:List (List Pd)),es=CD fs->PR F w (.sl es) a->Calls prog 97 #[a,.string sep] w λ e w'=>∃v,e= .returned v/\PR (λ _=>False) w' (.str (Fp fs)) v/\Below w.heap.size w w':=by
   intro es he ha;cases ha with
   | UK a cap=>
     have:=AQ List.length he;rw[B1] at this;simp at this;omega
   | sl _ bk off cap sz row t fr hF hh hc Ew hi hp=>
     have hel:es.length=xs.length:=by rw[he,B1,Yv]
     have KZ:∀(j:Nat) s,fs[j]?=some s->es[j]?=some [.str s]:=λ j s h=>by rw[he];simp[CD,h]
     have Aza:sz=1:=by
       have h0:fs[0]?=some (fs[0]'FE):=Ax FE;have:=Ew 0 _ (KZ 0 _ h0)
       simpa using this.symm
     subst Aza;clear he;have h1:∀(j:Nat) x,xs[j]?=some x->w.cell? ⟨bk,off+j,none⟩=some (.string x):=by
       intro j x hx;obtain ⟨s,hs,rfl⟩:=hxj j x hx;have h1:=hi j [.str s] 0 (.str s) (KZ j s hs) rfl;have h2:=hp j [.str s] 0 (.str s) (KZ j s hs) rfl;rw[Nat.mul_one,Bh] at h1 h2;rw[As,A5 h1] at h2;have h3:w.cell? ⟨bk,off+j,none⟩=row[off+j]?:=by simp only[World.cell?,hh];rfl
       rw[h3,A5 h1];simp only[AY] at h2;generalize row[off+j]=y at h2;cases h2;rfl
     rw[hel] at hc ⊢;have h5:=Tryz.strings_Join bk off cap xs sep w h1 (Ow bk hF) (by omega) hc (by rw[hjw];omega);rw[hjw] at h5;refine h5.mono ?_;rintro e w' ⟨rfl,hb⟩;exact ⟨_,rfl,.str _,hb⟩
 exact key _ rfl ha
end Go.Am
end
