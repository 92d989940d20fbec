/- Texts of this proof, what it rests on, merged: part G. -/
import Derived.Shelf.Strings.Builder1
import Derived.Shelf.Strings.Builder2
import Derived.Shelf.Strings.OnBuilder
import Derived.Shelf.Strings.BuilderF
import Derived.Shelf.Strings.BuilderK
import Derived.Shelf.Strconv.Itoa0
import Derived.Shelf.Strconv.Itoa1
import Derived.Shelf.LaysM
import Derived.Shelf.Strconv.Itoa2
import Derived.Shelf.Strconv.Itoa3
import Derived.Shelf.Strings.Search1
import Derived.Shelf.Strings.Search2
import Derived.Shelf.Strings.Search3
import Derived.Shelf.Strings.Count
import Derived.Shelf.Strings.Shaped
import Derived.Shelf.Strings.Prefix
import Derived.Shelf.Unicode.DecodeSlow
import Derived.Shelf.Unicode.DecodeAny
import Derived.Test.YtlfbkkljgighkaaGreatDoorSkF
section
namespace Go.Proofs
open Go.Shelf
def Tryz.ZR:Go.Shelf.Ren:=⟨λ | 156=>51 | 165=>103 | 166=>29 | 169=>31 | 240=>62 | 241=>157 | 276=>107 | 277=>200 | n=>n,λ | 31=>26 | 9=>9 | 3=>3 | 4=>4 | 0=>0 | 20=>20 | 72=>98 | 76=>103 | 70=>95 | 37=>96 | 75=>102 | 127=>159 | 164=>211 | 5=>5 | 80=>106 | n=>n,λ | n=>n⟩
theorem Tryz.Auq:Go.Proofs.Lays.n156 prog Tryz.ZR:={
 mixed:=by kernel_rfl
 f156:=func51.trans (congrArg some (by kernel_rfl))
 f165:=func103.trans (congrArg some (by kernel_rfl))
 f166:=func29.trans (congrArg some (by kernel_rfl))
 f169:=func31.trans (congrArg some (by kernel_rfl))
 f240:=func62.trans (congrArg some (by kernel_rfl))
 f241:=func157.trans (congrArg some (by kernel_rfl))
 f276:=func107.trans (congrArg some (by kernel_rfl))
 f277:=func200.trans (congrArg some (by kernel_rfl))
 t0:=underlying0
 a0:=Tryz.isAgg0
 z0:=Tryz.sizeOf0
 v0:=Tryz.zeroValue0
 t3:=underlying3
 a3:=Tryz.isAgg3
 z3:=Tryz.sizeOf3
 v3:=Tryz.zeroValue3
 t4:=underlying4
 a4:=Tryz.isAgg4
 z4:=Tryz.sizeOf4
 v4:=Tryz.zeroValue4
 t9:=underlying9
 a9:=Tryz.isAgg9
 z9:=Tryz.sizeOf9
 v9:=Tryz.zeroValue9
 t20:=underlying20
 a20:=Tryz.isAgg20
 z20:=Tryz.sizeOf20
 v20:=Tryz.zeroValue20
 t31:=underlying26
 a31:=Tryz.isAgg26
 z31:=Tryz.sizeOf26
 v31:=Tryz.zeroValue26
 t37:=underlying96
 a37:=Tryz.isAgg96
 z37:=Tryz.sizeOf96
 v37:=Tryz.zeroValue96
 t70:=underlying95
 a70:=Tryz.isAgg95
 z70:=Tryz.sizeOf95
 v70:=Tryz.zeroValue95
 t72:=underlying98
 a72:=Tryz.isAgg98
 z72:=Tryz.sizeOf98
 v72:=Tryz.zeroValue98
 t75:=underlying102
 a75:=Tryz.isAgg102
 z75:=Tryz.sizeOf102
 v75:=Tryz.zeroValue102
 t76:=underlying103
 a76:=Tryz.isAgg103
 z76:=Tryz.sizeOf103
 v76:=Tryz.zeroValue103
 t127:=underlying159
 a127:=Tryz.isAgg159
 z127:=Tryz.sizeOf159
 v127:=Tryz.zeroValue159
 t164:=underlying211
 a164:=Tryz.isAgg211
 z164:=Tryz.sizeOf211
 v164:=Tryz.zeroValue211}
theorem Tryz.Pv:Builder.Extra prog Tryz.ZR:={
 sizeBuilder:=by kernel_rfl
 liesBuilder:=by kernel_rfl
 t5:=underlying5
 a5:=Tryz.isAgg5
 z5:=Tryz.sizeOf5
 v5:=Tryz.zeroValue5
 infoByte:=by kernel_rfl
 cellsByte:=by kernel_rfl
 sizeByte:=by kernel_rfl
 neB5:=by decide}
open Go.RowKit in
theorem Tryz.strings_Join_none (a:Option Addr) (c:Nat) (sep:ByteArray) (w:World):
    Calls prog 51 #[.slice a 0 c,.string sep] w λ e w'=>e= .returned (.string ⟨#[]⟩)/\w'=w:=Any.strings_Join_none Tryz.Auq Tryz.Pv a c sep w
open Go.RowKit in
theorem Tryz.strings_Join (bk o c:Nat) (xs:List ByteArray) (sep:ByteArray) (w:World) (D4:∀(j:Nat) x,xs[j]?=some x->w.cell? ⟨bk,o+j,none⟩=some (.string x)) (hbk:bk<w.heap.size) (hN:xs.length<=140737488355328) (Qn:xs.length<=c) (hlen:(Lib.join (xs.map (·.data.toList)) sep.data.toList).length<=140737488355328):
    Calls prog 51 #[.slice (some ⟨bk,o,none⟩) xs.length c,.string sep] w λ e w'=>e= .returned (.string ⟨(Lib.join (xs.map (·.data.toList)) sep.data.toList).toArray⟩)/\Below w.heap.size w w':=Any.strings_Join Tryz.Auq Tryz.Pv bk o c xs sep w D4 hbk hN Qn hlen
def Tryz.Akh:Go.Shelf.Ren:=⟨λ | 171=>106 | 243=>159 | 246=>202 | 283=>220 | 284=>221 | 285=>222 | 286=>223 | 129=>231 | 317=>230 | 318=>232 | 319=>233 | 320=>234 | 337=>235 | 338=>236 | n=>n,λ | 3=>3 | 9=>9 | 2=>2 | 4=>4 | 171=>306 | 0=>0 | 53=>119 | 37=>96 | 5=>5 | 173=>309 | 212=>322 | 51=>318 | 20=>20 | 213=>323 | 46=>305 | 232=>326 | 233=>327 | n=>n,λ | 17=>3 | 18=>4 | 19=>5 | n=>n⟩
theorem Tryz.Bd2:Go.Proofs.LaysM.n171 prog Tryz.Akh:={
 mixed:=by kernel_rfl
 f129:=func231.trans (congrArg some (by kernel_rfl))
 f171:=func106.trans (congrArg some (by kernel_rfl))
 f243:=func159.trans (congrArg some (by kernel_rfl))
 f246:=func202.trans (congrArg some (by kernel_rfl))
 f283:=func220.trans (congrArg some (by kernel_rfl))
 f284:=func221.trans (congrArg some (by kernel_rfl))
 f285:=func222.trans (congrArg some (by kernel_rfl))
 f286:=func223.trans (congrArg some (by kernel_rfl))
 f317:=func230.trans (congrArg some (by kernel_rfl))
 f318:=func232.trans (congrArg some (by kernel_rfl))
 f319:=func233.trans (congrArg some (by kernel_rfl))
 f320:=func234.trans (congrArg some (by kernel_rfl))
 f337:=func235.trans (congrArg some (by kernel_rfl))
 f338:=func236.trans (congrArg some (by kernel_rfl))
 t0:=underlying0
 a0:=Tryz.isAgg0
 z0:=Tryz.sizeOf0
 v0:=Tryz.zeroValue0
 t2:=underlying2
 a2:=Tryz.isAgg2
 z2:=Tryz.sizeOf2
 v2:=Tryz.zeroValue2
 t3:=underlying3
 a3:=Tryz.isAgg3
 z3:=Tryz.sizeOf3
 v3:=Tryz.zeroValue3
 t4:=underlying4
 a4:=Tryz.isAgg4
 z4:=Tryz.sizeOf4
 v4:=Tryz.zeroValue4
 t5:=underlying5
 a5:=Tryz.isAgg5
 z5:=Tryz.sizeOf5
 v5:=Tryz.zeroValue5
 t9:=underlying9
 a9:=Tryz.isAgg9
 z9:=Tryz.sizeOf9
 v9:=Tryz.zeroValue9
 t20:=underlying20
 a20:=Tryz.isAgg20
 z20:=Tryz.sizeOf20
 v20:=Tryz.zeroValue20
 t37:=underlying96
 a37:=Tryz.isAgg96
 z37:=Tryz.sizeOf96
 v37:=Tryz.zeroValue96
 t46:=underlying305
 a46:=Tryz.isAgg305
 z46:=Tryz.sizeOf305
 v46:=Tryz.zeroValue305
 t51:=underlying318
 a51:=Tryz.isAgg318
 z51:=Tryz.sizeOf318
 v51:=Tryz.zeroValue318
 t53:=underlying119
 a53:=Tryz.isAgg119
 z53:=Tryz.sizeOf119
 v53:=Tryz.zeroValue119
 t171:=underlying306
 a171:=Tryz.isAgg306
 z171:=Tryz.sizeOf306
 v171:=Tryz.zeroValue306
 t173:=underlying309
 a173:=Tryz.isAgg309
 z173:=Tryz.sizeOf309
 v173:=Tryz.zeroValue309
 t212:=underlying322
 a212:=Tryz.isAgg322
 z212:=Tryz.sizeOf322
 v212:=Tryz.zeroValue322
 t213:=underlying323
 a213:=Tryz.isAgg323
 z213:=Tryz.sizeOf323
 t232:=underlying326
 a232:=Tryz.isAgg326
 z232:=Tryz.sizeOf326
 v232:=Tryz.zeroValue326
 t233:=underlying327
 a233:=Tryz.isAgg327
 z233:=Tryz.sizeOf327
 v233:=Tryz.zeroValue327
 g17:=by kernel_rfl
 g18:=by kernel_rfl
 g19:=by kernel_rfl
 i0:=by kernel_rfl
 i2:=by kernel_rfl
 i3:=by kernel_rfl
 i4:=by kernel_rfl
 i5:=by kernel_rfl
 i9:=by kernel_rfl
 i20:=by kernel_rfl
 i37:=by kernel_rfl
 i46:=by kernel_rfl
 i51:=by kernel_rfl
 i53:=by kernel_rfl
 i171:=by kernel_rfl
 i173:=by kernel_rfl
 i212:=by kernel_rfl
 i232:=by kernel_rfl
 i233:=by kernel_rfl
 m17:=by kernel_rfl
 m18:=by kernel_rfl
 m19:=by kernel_rfl}
open Go.RowKit Go.Sort Go.Lib in
theorem Tryz.strconv_Itoa (n:Int) (h0:-9223372036854775808<=n) (h1:n<=9223372036854775807) (w:World) (Bjj:Lib.TabIs prog w "internal/strconv.uint64pow10" .u64 Lib.pow10Tab):
    Calls prog 106 #[.int .i64 n] w λ e w'=>e= .returned (.string ⟨(Lib.itoa n).toArray⟩)/\∃k os,w'=grow (w.drewN k) os:=Any.strconv_Itoa Tryz.Bd2 n h0 h1 w Bjj
end Go.Proofs
end
noncomputable section
namespace Go.Am
open Go Go.Proofs Go.RowKit
open Go.IntKind (i64)
open Tryz
set_option maxRecDepth 100000
set_option linter.unusedVariables false
set_option linter.unusedSimpArgs false
set_option maxHeartbeats 2000000
theorem Ase(fs):Lib.join fs [32]=Ej fs:=by
 cases fs with
 | nil=>rfl
 | cons x r=>simp[Lib.join_cons,Lib.joinTail,Ej,List.flatMap]
theorem Bd5(f)(EG:f≠[])(hl:f.length<=100000000)(u:szF f<=1000000000000):C3 prog 51 [sD (El f),.p (.str [32])] [] λ h r=>h=[]/\r= .p (.str (Ej f)):=by
 refine Yh Aop λ vs w F M _ Uh U=>?_;obtain ⟨a,b,rfl,l,hb⟩:=Av4 U;rw[Bgn hb];have hlen:=Ab4 f EG;cases l with
 | p l=>
 have HO:0<f.length:=Ca.2 EG;obtain ⟨g,I3⟩:∃g:List ByteArray,g=f.map λ s=>⟨s.toArray⟩:=⟨_,rfl⟩;have E:g.length=f.length:=by rw[I3,Ct]
 have B:∀(j:Nat) x,g[j]?=some x->∃s,f[j]?=some s/\x=⟨s.toArray⟩:=by
   intro j x hx;rw[I3,BD] at hx;cases N:f[j]? with
   | none=>rw[N] at hx;cases hx
   | some s=>rw[N] at hx;cases hx;exact ⟨s,rfl,rfl⟩
 have Q:g.map (λ x=>x.data.toList)=f:=by rw[I3];simp[Function.comp_def]
 clear I3;obtain ⟨sep,Bo3⟩:∃sep:ByteArray,sep=⟨[32].toArray⟩:=⟨_,rfl⟩;have z:sep.data.toList=[32]:=by rw[Bo3]
 have m:Lib.join (g.map (λ x=>x.data.toList)) sep.data.toList=Ej f:=by rw[Q,z,Ase]
 rw[<-Bo3];clear Bo3;have key:∀(i:Ag),i=El f->PR F w (.sl i) a->Calls prog 51 #[a,.string sep] w λ e H=>∃v,e= .returned v/\PR (λ _=>False) H (.str (Ej f)) v/\Below w.heap.size w H:=by
   intro i o l;cases l with
   | sl0 a cap=>
     have:=B3 List.length o;rw[DJ] at this;simp at this;omega
   | sl _ n off cap Z row t fr T V K HK W Y=>
     have q:i.length=g.length:=by rw[o,DJ,E]
     have Vn:∀(j:Nat) s,f[j]?=some s->i[j]?=some [.str s]:=λ j s h=>by rw[o];simp[El,h]
     have Byj:Z=1:=by
       have R:f[0]?=some (f[0]'HO):=Bp HO;have:=HK 0 _ (Vn 0 _ R)
       simpa using this.symm
     subst Byj;clear o;have k:∀(j:Nat) x,g[j]?=some x->w.cell? ⟨n,off+j,none⟩=some (.string x):=by
       intro j x hx;obtain ⟨s,u,rfl⟩:=B j x hx;have k:=W j [.str s] 0 (.str s) (Vn j s u) rfl;have h2:=Y j [.str s] 0 (.str s) (Vn j s u) rfl;rw[Nat.mul_one,B9] at k h2;rw[Bs,BW k] at h2;have S:w.cell? ⟨n,off+j,none⟩=row[off+j]?:=by simp only[World.cell?,V];rfl
       rw[S,BW k];simp only[BP] at h2;generalize row[off+j]=y at h2;cases h2;rfl
     rw[q] at K ⊢;have I:=Tryz.strings_Join n off cap g sep w k (Uh n T) AQ K (by rw[m];omega);rw[m] at I;refine I.mono ?_;rintro e H ⟨rfl,hb⟩;exact ⟨_,rfl,.str _,hb⟩
 exact key _ rfl l
theorem Bd6:C3 prog 51 [sD (El []),.p (.str [32])] [] λ h r=>h=[]/\r= .p (.str (Ej [])):=by
 refine Yh Aop λ y w F M _ Uh j=>?_;obtain ⟨a,b,rfl,f,hb⟩:=Av4 j;rw[Bgn hb];cases f with
 | p f=>
 have key:∀(i:Ag),i=[]->PR F w (.sl i) a->Calls prog 51 #[a,.string ⟨[32].toArray⟩] w λ e g=>∃v,e= .returned v/\PR (λ _=>False) g (.str (Ej [])) v/\Below w.heap.size w g:=by
   intro i k f;cases f with
   | sl0 a cap=>
     refine (Tryz.strings_Join_none a cap _ w).mono ?_;rintro e g ⟨rfl,rfl⟩;exact ⟨_,rfl,.str _,Below.refl _ _⟩
   | sl _ l off cap x row t m n q o HK s u=>
     subst k;refine (Tryz.strings_Join_none _ cap _ w).mono ?_;rintro e g ⟨rfl,rfl⟩;exact ⟨_,rfl,.str _,Below.refl _ _⟩
 exact key _ rfl f
end Go.Am
end
noncomputable section
namespace Go.Am
open Go Go.Proofs
open Go.IntKind (i64)
open Tryz
set_option maxRecDepth 100000
set_option linter.unusedVariables false
set_option linter.unusedSimpArgs false
set_option maxHeartbeats 2000000
theorem TN(n):Lib.decDigits n=Ik n:=by
 induction n using Nat.strongRecOn with
 | ind n a=>
   rw[Lib.decDigits,Ik];by_cases h:n<10
   . rw[dif_pos h,dif_pos h]
   . rw[dif_neg h,dif_neg h,a (n / 10) AQ]
theorem Awu(n):Lib.itoa n=MR n:=by
 unfold Lib.itoa MR;by_cases h:n<0
 . rw[if_pos h,if_pos h,TN,show n.natAbs=(-n).toNat by omega]
 . rw[if_neg h,if_neg h,TN]
def Kx:Ax:=VC .u64 Lib.pow10Tab
theorem Bjc(n)(h0:-9223372036854775808<=n)(a:n<=9223372036854775807):C3 prog 106 [iD n] [(1000000,(.Ev 3 Kx))] λ h r=>h=[(1000000,(.Ev 3 Kx))]/\r= .p (.str (MR n)):=by
 rw[<-Awu];exact Aqw AY Ba0 (λ n w h0 a b=>Tryz.strconv_Itoa n h0 a w b) n h0 a
end Go.Am
end
