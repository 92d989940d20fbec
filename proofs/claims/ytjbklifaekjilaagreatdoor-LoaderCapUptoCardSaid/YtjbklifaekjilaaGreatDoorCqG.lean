/- Texts of this proof, what it rests on, merged: part G. -/
import Derived.Shelf.Strings.Builder1
import Derived.Shelf.Strings.Builder2
import Derived.Shelf.Strings.OnBuilder
import Derived.Shelf.Small.Bits
import Derived.Shelf.Strings.BuilderF
import Derived.Shelf.Strings.BuilderK
import Derived.Shelf.Strconv.Itoa0
import Derived.Shelf.Strconv.Itoa1
import Derived.Shelf.LaysM
import Derived.Shelf.Strconv.Itoa2
import Derived.Shelf.Strconv.Itoa3
import Derived.Shelf.Strings.Search1
import Derived.Shelf.Strings.Search2
import Derived.Shelf.Strings.Search3
import Derived.Shelf.Strings.Count
import Derived.Shelf.Strings.Shaped
import Derived.Shelf.GgClosure.StringsIndexFunc
import Derived.Ground.GgwProg
import Derived.Shelf.GgClosure.StringsIndexFuncTop
import Derived.Shelf.GgClosure.StringsRunes
import Derived.Shelf.Strings.Prefix
import Derived.Shelf.Bits.Mul64
import Derived.Shelf.Strings.Repeat
import Derived.Shelf.Unicode.DecodeSlow
import Derived.Shelf.Unicode.DecodeAny
import Derived.Shelf.Strings.FuncGrows
import Derived.Test.YtjbklifaekjilaaGreatDoorCqF
section
namespace Go.Proofs
open Go.Shelf
def Tryz.Q3:Go.Shelf.Ren:=⟨λ | 156=>97 | 165=>135 | 166=>95 | 169=>98 | 240=>132 | 241=>165 | 276=>161 | 277=>184 | n=>n,λ | 31=>26 | 9=>9 | 3=>3 | 4=>4 | 0=>0 | 20=>20 | 72=>142 | 76=>145 | 70=>140 | 37=>72 | 75=>144 | 127=>176 | 164=>197 | 5=>5 | 80=>149 | n=>n,λ | n=>n⟩
theorem Tryz.Aoq:Go.Proofs.Lays.n156 prog Tryz.Q3:={
 mixed:=by kernel_rfl
 f156:=func97.trans (congrArg some (by kernel_rfl))
 f165:=func135.trans (congrArg some (by kernel_rfl))
 f166:=func95.trans (congrArg some (by kernel_rfl))
 f169:=func98.trans (congrArg some (by kernel_rfl))
 f240:=func132.trans (congrArg some (by kernel_rfl))
 f241:=func165.trans (congrArg some (by kernel_rfl))
 f276:=func161.trans (congrArg some (by kernel_rfl))
 f277:=func184.trans (congrArg some (by kernel_rfl))
 t0:=underlying0
 a0:=Tryz.isAgg0
 z0:=Tryz.sizeOf0
 v0:=Tryz.zeroValue0
 t3:=underlying3
 a3:=Tryz.isAgg3
 z3:=Tryz.sizeOf3
 v3:=Tryz.zeroValue3
 t4:=underlying4
 a4:=Tryz.isAgg4
 z4:=Tryz.sizeOf4
 v4:=Tryz.zeroValue4
 t9:=underlying9
 a9:=Tryz.isAgg9
 z9:=Tryz.sizeOf9
 v9:=Tryz.zeroValue9
 t20:=underlying20
 a20:=Tryz.isAgg20
 z20:=Tryz.sizeOf20
 v20:=Tryz.zeroValue20
 t31:=underlying26
 a31:=Tryz.isAgg26
 z31:=Tryz.sizeOf26
 v31:=Tryz.zeroValue26
 t37:=underlying72
 a37:=Tryz.isAgg72
 z37:=Tryz.sizeOf72
 v37:=Tryz.zeroValue72
 t70:=underlying140
 a70:=Tryz.isAgg140
 z70:=Tryz.sizeOf140
 v70:=Tryz.zeroValue140
 t72:=underlying142
 a72:=Tryz.isAgg142
 z72:=Tryz.sizeOf142
 v72:=Tryz.zeroValue142
 t75:=underlying144
 a75:=Tryz.isAgg144
 z75:=Tryz.sizeOf144
 v75:=Tryz.zeroValue144
 t76:=underlying145
 a76:=Tryz.isAgg145
 z76:=Tryz.sizeOf145
 v76:=Tryz.zeroValue145
 t127:=underlying176
 a127:=Tryz.isAgg176
 z127:=Tryz.sizeOf176
 v127:=Tryz.zeroValue176
 t164:=underlying197
 a164:=Tryz.isAgg197
 z164:=Tryz.sizeOf197
 v164:=Tryz.zeroValue197}
theorem Tryz.PF:Builder.Extra prog Tryz.Q3:={
 sizeBuilder:=by kernel_rfl
 liesBuilder:=by kernel_rfl
 t5:=underlying5
 a5:=Tryz.isAgg5
 z5:=Tryz.sizeOf5
 v5:=Tryz.zeroValue5
 infoByte:=by kernel_rfl
 cellsByte:=by kernel_rfl
 sizeByte:=by kernel_rfl
 neB5:=by decide}
open Go.RowKit in
theorem Tryz.strings_Join (bk o c:Nat) (xs:List ByteArray) (sep:ByteArray) (w:World) (CK:∀(j:Nat) x,xs[j]?=some x->w.cell? ⟨bk,o+j,none⟩=some (.string x)) (hbk:bk<w.heap.size) (hN:xs.length<=140737488355328) (Ii:xs.length<=c) (hlen:(Lib.join (xs.map (·.data.toList)) sep.data.toList).length<=140737488355328):
    Calls prog 97 #[.slice (some ⟨bk,o,none⟩) xs.length c,.string sep] w λ e w'=>e= .returned (.string ⟨(Lib.join (xs.map (·.data.toList)) sep.data.toList).toArray⟩)/\Below w.heap.size w w':=Any.strings_Join Tryz.Aoq Tryz.PF bk o c xs sep w CK hbk hN Ii hlen
def Tryz.Wz:Go.Shelf.Ren:=⟨λ | 171=>93 | 243=>129 | 246=>159 | 283=>180 | 284=>181 | 285=>182 | 286=>183 | 129=>154 | 317=>191 | 318=>192 | 319=>193 | 320=>194 | 337=>197 | 338=>198 | n=>n,λ | 3=>3 | 9=>9 | 2=>2 | 4=>4 | 171=>215 | 0=>0 | 53=>192 | 37=>72 | 5=>5 | 173=>217 | 212=>223 | 51=>190 | 20=>20 | 213=>224 | 46=>160 | 232=>230 | 233=>231 | n=>n,λ | 17=>1 | 18=>4 | 19=>5 | n=>n⟩
theorem Tryz.Aj8:Go.Proofs.LaysM.n171 prog Tryz.Wz:={
 mixed:=by kernel_rfl
 f129:=func154.trans (congrArg some (by kernel_rfl))
 f171:=func93.trans (congrArg some (by kernel_rfl))
 f243:=func129.trans (congrArg some (by kernel_rfl))
 f246:=func159.trans (congrArg some (by kernel_rfl))
 f283:=func180.trans (congrArg some (by kernel_rfl))
 f284:=func181.trans (congrArg some (by kernel_rfl))
 f285:=func182.trans (congrArg some (by kernel_rfl))
 f286:=func183.trans (congrArg some (by kernel_rfl))
 f317:=func191.trans (congrArg some (by kernel_rfl))
 f318:=func192.trans (congrArg some (by kernel_rfl))
 f319:=func193.trans (congrArg some (by kernel_rfl))
 f320:=func194.trans (congrArg some (by kernel_rfl))
 f337:=func197.trans (congrArg some (by kernel_rfl))
 f338:=func198.trans (congrArg some (by kernel_rfl))
 t0:=underlying0
 a0:=Tryz.isAgg0
 z0:=Tryz.sizeOf0
 v0:=Tryz.zeroValue0
 t2:=underlying2
 a2:=Tryz.isAgg2
 z2:=Tryz.sizeOf2
 v2:=Tryz.zeroValue2
 t3:=underlying3
 a3:=Tryz.isAgg3
 z3:=Tryz.sizeOf3
 v3:=Tryz.zeroValue3
 t4:=underlying4
 a4:=Tryz.isAgg4
 z4:=Tryz.sizeOf4
 v4:=Tryz.zeroValue4
 t5:=underlying5
 a5:=Tryz.isAgg5
 z5:=Tryz.sizeOf5
 v5:=Tryz.zeroValue5
 t9:=underlying9
 a9:=Tryz.isAgg9
 z9:=Tryz.sizeOf9
 v9:=Tryz.zeroValue9
 t20:=underlying20
 a20:=Tryz.isAgg20
 z20:=Tryz.sizeOf20
 v20:=Tryz.zeroValue20
 t37:=underlying72
 a37:=Tryz.isAgg72
 z37:=Tryz.sizeOf72
 v37:=Tryz.zeroValue72
 t46:=underlying160
 a46:=Tryz.isAgg160
 z46:=Tryz.sizeOf160
 v46:=Tryz.zeroValue160
 t51:=underlying190
 a51:=Tryz.isAgg190
 z51:=Tryz.sizeOf190
 v51:=Tryz.zeroValue190
 t53:=underlying192
 a53:=Tryz.isAgg192
 z53:=Tryz.sizeOf192
 v53:=Tryz.zeroValue192
 t171:=underlying215
 a171:=Tryz.isAgg215
 z171:=Tryz.sizeOf215
 v171:=Tryz.zeroValue215
 t173:=underlying217
 a173:=Tryz.isAgg217
 z173:=Tryz.sizeOf217
 v173:=Tryz.zeroValue217
 t212:=underlying223
 a212:=Tryz.isAgg223
 z212:=Tryz.sizeOf223
 v212:=Tryz.zeroValue223
 t213:=underlying224
 a213:=Tryz.isAgg224
 z213:=Tryz.sizeOf224
 t232:=underlying230
 a232:=Tryz.isAgg230
 z232:=Tryz.sizeOf230
 v232:=Tryz.zeroValue230
 t233:=underlying231
 a233:=Tryz.isAgg231
 z233:=Tryz.sizeOf231
 v233:=Tryz.zeroValue231
 g17:=by kernel_rfl
 g18:=by kernel_rfl
 g19:=by kernel_rfl
 i0:=by kernel_rfl
 i2:=by kernel_rfl
 i3:=by kernel_rfl
 i4:=by kernel_rfl
 i5:=by kernel_rfl
 i9:=by kernel_rfl
 i20:=by kernel_rfl
 i37:=by kernel_rfl
 i46:=by kernel_rfl
 i51:=by kernel_rfl
 i53:=by kernel_rfl
 i171:=by kernel_rfl
 i173:=by kernel_rfl
 i212:=by kernel_rfl
 i232:=by kernel_rfl
 i233:=by kernel_rfl
 m17:=by kernel_rfl
 m18:=by kernel_rfl
 m19:=by kernel_rfl}
open Go.RowKit Go.Sort Go.Lib in
theorem Tryz.strconv_Itoa (n:Int) (h0:-9223372036854775808<=n) (h1:n<=9223372036854775807) (w:World) (Ap2:Lib.TabIs prog w "internal/strconv.uint64pow10" .u64 Lib.pow10Tab):
    Calls prog 93 #[.int .i64 n] w λ e w'=>e= .returned (.string ⟨(Lib.itoa n).toArray⟩)/\∃k os,w'=grow (w.drewN k) os:=Any.strconv_Itoa Tryz.Aj8 n h0 h1 w Ap2
def Tryz.WA:Go.Shelf.Ren:=⟨λ | 15=>130 | 20=>160 | n=>n,λ | 9=>9 | 23=>171 | 3=>3 | 4=>4 | 0=>0 | 21=>21 | n=>n,λ | n=>n⟩
theorem Tryz.Aj9:Go.Proofs.LaysGw.n15 prog Tryz.WA:={
 mixed:=by kernel_rfl
 f15:=func130.trans (congrArg some (by kernel_rfl))
 f20:=func160.trans (congrArg some (by kernel_rfl))
 t0:=underlying0
 a0:=Tryz.isAgg0
 z0:=Tryz.sizeOf0
 v0:=Tryz.zeroValue0
 i0:=by kernel_rfl
 t3:=underlying3
 a3:=Tryz.isAgg3
 z3:=Tryz.sizeOf3
 v3:=Tryz.zeroValue3
 i3:=by kernel_rfl
 t4:=underlying4
 a4:=Tryz.isAgg4
 z4:=Tryz.sizeOf4
 v4:=Tryz.zeroValue4
 i4:=by kernel_rfl
 t9:=underlying9
 a9:=Tryz.isAgg9
 z9:=Tryz.sizeOf9
 v9:=Tryz.zeroValue9
 i9:=by kernel_rfl
 t21:=underlying21
 a21:=Tryz.isAgg21
 z21:=Tryz.sizeOf21
 v21:=Tryz.zeroValue21
 i21:=by kernel_rfl
 t23:=underlying171
 a23:=Tryz.isAgg171
 z23:=Tryz.sizeOf171
 v23:=Tryz.zeroValue171
 i23:=by kernel_rfl}
def Tryz.Q4:Go.Shelf.Ren:=⟨λ | 105=>96 | 212=>133 | 99=>134 | 165=>135 | 166=>95 | 170=>136 | 169=>98 | 263=>162 | 264=>163 | 206=>164 | 240=>132 | 241=>165 | 276=>161 | 277=>184 | n=>n,λ | 9=>9 | 3=>3 | 4=>4 | 20=>20 | 0=>0 | 46=>160 | 109=>172 | 5=>5 | 72=>142 | 76=>145 | 51=>190 | 146=>199 | 53=>192 | 148=>201 | 70=>140 | 37=>72 | 75=>144 | 127=>176 | 164=>197 | 80=>149 | n=>n,λ | n=>n⟩
theorem Tryz.Aor:Go.Proofs.Lays.n105 prog Tryz.Q4:={
 mixed:=by kernel_rfl
 f99:=func134.trans (congrArg some (by kernel_rfl))
 f105:=func96.trans (congrArg some (by kernel_rfl))
 f165:=func135.trans (congrArg some (by kernel_rfl))
 f166:=func95.trans (congrArg some (by kernel_rfl))
 f169:=func98.trans (congrArg some (by kernel_rfl))
 f170:=func136.trans (congrArg some (by kernel_rfl))
 f206:=func164.trans (congrArg some (by kernel_rfl))
 f212:=func133.trans (congrArg some (by kernel_rfl))
 f240:=func132.trans (congrArg some (by kernel_rfl))
 f241:=func165.trans (congrArg some (by kernel_rfl))
 f263:=func162.trans (congrArg some (by kernel_rfl))
 f264:=func163.trans (congrArg some (by kernel_rfl))
 f276:=func161.trans (congrArg some (by kernel_rfl))
 f277:=func184.trans (congrArg some (by kernel_rfl))
 t0:=underlying0
 a0:=Tryz.isAgg0
 z0:=Tryz.sizeOf0
 v0:=Tryz.zeroValue0
 t3:=underlying3
 a3:=Tryz.isAgg3
 z3:=Tryz.sizeOf3
 v3:=Tryz.zeroValue3
 t4:=underlying4
 a4:=Tryz.isAgg4
 z4:=Tryz.sizeOf4
 v4:=Tryz.zeroValue4
 t5:=underlying5
 a5:=Tryz.isAgg5
 z5:=Tryz.sizeOf5
 v5:=Tryz.zeroValue5
 t9:=underlying9
 a9:=Tryz.isAgg9
 z9:=Tryz.sizeOf9
 v9:=Tryz.zeroValue9
 t20:=underlying20
 a20:=Tryz.isAgg20
 z20:=Tryz.sizeOf20
 v20:=Tryz.zeroValue20
 t37:=underlying72
 a37:=Tryz.isAgg72
 z37:=Tryz.sizeOf72
 v37:=Tryz.zeroValue72
 t46:=underlying160
 a46:=Tryz.isAgg160
 z46:=Tryz.sizeOf160
 v46:=Tryz.zeroValue160
 t51:=underlying190
 a51:=Tryz.isAgg190
 z51:=Tryz.sizeOf190
 v51:=Tryz.zeroValue190
 t53:=underlying192
 a53:=Tryz.isAgg192
 z53:=Tryz.sizeOf192
 v53:=Tryz.zeroValue192
 t70:=underlying140
 a70:=Tryz.isAgg140
 z70:=Tryz.sizeOf140
 v70:=Tryz.zeroValue140
 t72:=underlying142
 a72:=Tryz.isAgg142
 z72:=Tryz.sizeOf142
 v72:=Tryz.zeroValue142
 t75:=underlying144
 a75:=Tryz.isAgg144
 z75:=Tryz.sizeOf144
 v75:=Tryz.zeroValue144
 t76:=underlying145
 a76:=Tryz.isAgg145
 z76:=Tryz.sizeOf145
 v76:=Tryz.zeroValue145
 t109:=underlying172
 a109:=Tryz.isAgg172
 z109:=Tryz.sizeOf172
 v109:=Tryz.zeroValue172
 t127:=underlying176
 a127:=Tryz.isAgg176
 z127:=Tryz.sizeOf176
 v127:=Tryz.zeroValue176
 t146:=underlying199
 a146:=Tryz.isAgg199
 z146:=Tryz.sizeOf199
 v146:=Tryz.zeroValue199
 t148:=underlying201
 a148:=Tryz.isAgg201
 z148:=Tryz.sizeOf201
 v148:=Tryz.zeroValue201
 t164:=underlying197
 a164:=Tryz.isAgg197
 z164:=Tryz.sizeOf197
 v164:=Tryz.zeroValue197}
theorem Tryz.PG:Builder.Extra prog Tryz.Q4:={
 sizeBuilder:=by kernel_rfl
 liesBuilder:=by kernel_rfl
 t5:=underlying5
 a5:=Tryz.isAgg5
 z5:=Tryz.sizeOf5
 v5:=Tryz.zeroValue5
 infoByte:=by kernel_rfl
 cellsByte:=by kernel_rfl
 sizeByte:=by kernel_rfl
 neB5:=by decide}
open Go.RowKit Go.Lib in
theorem Tryz.strings_Repeat (s:ByteArray) (c:Nat) (w:World) (hc:c<=9223372036854775807) (hlen:s.size*c<=140737488355328):
    Calls prog 96 #[.string s,.int .i64 c] w λ e w'=>e= .returned (.string ⟨(Lib.repeatL s.data.toList c).toArray⟩)/\Below w.heap.size w w':=Any.strings_Repeat Tryz.Aor Tryz.PG s c w hc hlen
open Go.RowKit Go.Lib in
theorem Tryz.strings_IndexFunc_grows (g:Nat) (lb:Array Value) (eg:∀args w,(callFunc g args).run prog w= .ok (.enter g args) w) (p:Nat->Bool) (s:ByteArray) (w:World) (hp:PredGrows prog g lb p w):
    Calls prog 130 #[.string s,.func (.func g) #[] lb] w λ e w'=>e= .returned (.int .i64 (Lib.idxFunc p true s))/\Below w.heap.size w w':=Any.strings_IndexFunc_grows Tryz.Aj9 g lb eg p s w hp
end Go.Proofs
end
noncomputable section
namespace Go.Am
open Go Go.Proofs
open Tryz
set_option maxRecDepth 100000
set_option linter.unusedVariables false
set_option linter.unusedSimpArgs false
set_option maxHeartbeats 2000000
def JZ:List Pd:=ND .u64 Lib.pow10Tab
theorem Aot(n:Int)(h0:-9223372036854775808<=n)(h1:n<=9223372036854775807):BV prog 93 [.p (.int .i64 n)] [(1000000,(.C8 1 JZ))] λ h r=>h=[(1000000,(.C8 1 JZ))]/\r= .p (.str (Pz n)):=by
 rw[<-Adp];exact ZH (by kernel_rfl) Aki (λ n w h0 h1 ht=>Tryz.strconv_Itoa n h0 h1 w ht) n h0 h1
def Ax0(r:List Ln×Int):D:= .De [.p (.sl (Gb r.1)),.p (.int .i64 r.2)]
theorem Akb(d:List Dc)(hd:d.length<=10000000)(hs:∀x∈d,x.names.length<=10000000/\x.B2.length<=10000000):
   BV prog 51 [.p (.sl (EK d))] [(1000000,(.C8 1 JZ))] λ h r=>h=[(1000000,(.C8 1 JZ))]/\r=Ax0 (Ph d []):=by
 refine BX func51 rfl Al7 (by simp[Tryz.f51]) ?_;simp only[go_sem,Fh];refine B3 (λ q:Nat×List Ln=>⟨[(10,.p (.sl (EK d))),(11,.p (.int .i64 (d.length:Nat))),(12,.p (.int .i64 (q.1:Nat))),(4,.ref 49 0 q.2.length q.2.length)],[(49,.arr 80 2 (Gb q.2)),(1000000,(.C8 1 JZ))],52⟩)
   (λ q=>q.1<=d.length/\q.2.length<=q.1/\Ph (d.drop q.1) q.2=Ph d []) (λ q=>d.length - q.1) (0,[]) ⟨AG _,by simp,by simp⟩ ((Wk.nil (t:=4) (q:=49) (sz:=2) 80 rfl rfl (by decide)).trans (Wk.forget (by simp[ZF,Gb]))) ?_
 rintro ⟨i,acc⟩ n ⟨hi,ha,he⟩ ih;simp only at hi ha he;simp only[go_sem];refine Cv (λ h2=>?_) (λ h2=>?_)
 . have Cj:i<d.length:=by simp at h2;omega
   have hw:=Cf i (by omega);have u5:=D1 d i Oi Cj;rw[u5] at he;have hx:=hs _ (CJ d i Oi Cj);have hg:=Am1 d i Cj;generalize hxe:d.getD i Oi=x at*;have DH:(0:Int)<=(i:Int)/\(i:Int)<(d.length:Int):=by omega
   simp only[go_sem,Fh,Ab,hg,DH];refine DY ((XH x ⟨hx.1,hx.2⟩).C8 (id:=1000000) (by decide) rfl (by simp[C6,D.ids,DL,Dc.d]) (λ h1 r hr=>by rw[hr.1];rfl)) ?_;rintro h' r ⟨_,⟨rfl,rfl⟩,rfl⟩;simp only[go_sem];cases hv:CP x
   . simp only[go_sem];refine BU ?_;simp only[go_sem];simp only[Ph,hv] at he;rw[<-he];rfl
   . obtain ⟨Qk,Xv,hw3,hw4,hw5⟩:=(GI x).1 hv;obtain ⟨word,line,names,B2⟩:=x;simp only at Qk Xv hw3 hw4 hw5 hx hg;obtain ⟨j,rfl⟩:∃j:Nat,word=(j:Int):=⟨word.toNat,by omega⟩;have hj:j<7:=by omega
     have hfc:=N6 j hj;have Ov:j*3+3<=(Hx.flatMap fmC).length:=by rw[Kr];omega
     have hj0:(0:Int)<=(j:Int)/\(j:Int)<7:=by omega
     have hdt:List.take 3 (List.drop (j*3) (List.map D.p (Hx.flatMap fmC)))=[.p (.str (Et j).word),.p (.str (Et j).fields),.p (.bool (Et j).more)]:=by
       rw[<-List.map_drop,<-Bu,hfc];rfl
     have hfw:[[Pd.str (Et j).word]]++CD names=CD ((Et j).word::names):=rfl;have Ae4:Ly 1 (CD names):=by simp[Ly,CD]
     simp only[go_sem];refine CE mixed (p:=[(0,0),(1,0),(3,0),(4,0),(8,0),(9,0),(12,1),(2,2),(5,0),(6,0),(7,1),(10,2),(11,0),(13,3)]) (by kernel_rfl) (by simp[C5,get]) ?_;simp only[go_sem];refine Abw (Ta.C8 (id:=1000000) (by decide) rfl (by simp[C6,D.ids,DL]) (λ h1 r hr=>by rw[hr.1];rfl)) ?_;rintro h' r ⟨_,⟨rfl,rfl⟩,rfl⟩;simp only[go_sem,Ab,Ov,hdt,hj0,hfw,B1];refine ⟨⟨Ae4,by omega,by omega⟩,?_⟩;refine B3 (λ q:Nat×List (List UInt8)=>⟨[(4,.ref 49 0 acc.length acc.length),(7,.ptr 7 0),(10,.p (.sl (EK d))),(11,.p (.int .i64 (d.length:Nat))),(12,.p (.int .i64 (i:Nat))),
         (32,.p (.sl (BT B2))),(33,.p (.int .i64 (B2.length:Nat))),(34,.p (.int .i64 (q.1:Nat)))],
         [(7,.box [.p (.int .i64 line),.ref 26 0 q.2.length q.2.length]),(26,.arr 9 1 (CD q.2)),(49,.arr 80 2 (Gb acc)),(1000000,(.C8 1 JZ))],52⟩)
       (λ q=>q.1<=B2.length/\q.2.length<=10000001+q.1/\q.2++(B2.drop q.1).map Pz=ED ⟨j,line,names,B2⟩) (λ q=>B2.length - q.1) (0,(Et j).word::names) ⟨AG _,by simp;omega,by simp[ED]⟩
       (Wk.forget (by simp[ZF,BS,CD])) ?_
     rintro ⟨m,fs⟩ n2 ⟨hm,hfs,he2⟩ JL;simp only at hm hfs he2;simp only[go_sem];refine Cv (λ h3=>?_) (λ h3=>?_)
     . have hmt:m<B2.length:=by simp at h3;omega
       have hwm:=Cf m (by omega);have hgm:=Cg B2 m hmt;have N2:-9223372036854775808<=B2.getD m 0/\B2.getD m 0<=9223372036854775807:=by
         have:=hw5 _ (CJ B2 m 0 hmt);omega
       rw[D1 B2 m 0 hmt] at he2;generalize hk:B2.getD m 0=k at*;have hm0:(0:Int)<=(m:Int)/\(m:Int)<(B2.length:Int):=by omega
       simp only[go_sem,BS,Ab,hgm,hm0];refine Di [(7,.box [.p (.int .i64 line),.ref 26 0 fs.length fs.length]),(1000000,(.C8 1 JZ))] mixed (p:=[(0,0),(1,0),(2,0),(3,2),(4,1),(5,2),(6,0),(7,3)]) (by kernel_rfl) (by simp[C5,get]) ?_;simp only[go_sem];refine Gq (Aot k N2.1 N2.2) ?_;simp only[go_sem,B1];refine ⟨⟨EN _ _ rfl,by omega⟩,?_⟩;simp only[go_sem,hwm];refine JL (m+1,fs++[Pz k]) _ ⟨hmt,by simp;omega,by rw[<-he2];simp⟩ (by simp only;omega) ?_
       (refine Wk.forget ?_;simp[ZF,EV,B1];done)
     . have hml:m=B2.length:=by simp at h3;omega
       subst hml;simp only[Bv,Bi,List.append_nil] at he2;simp only[go_sem,B1,Dx,Ku fs fs.length (Ai _),hw];refine ⟨⟨EN _ _ rfl,by omega⟩,?_⟩;simp only[Ph,hv,AL] at he;refine ih (i+1,acc++[⟨line,fs⟩]) _ ⟨Cj,by simp;omega,by rw[he2];exact he⟩ (by simp only;omega) ?_
       (refine Wk.forget ?_;simp[ZF,MR,Dx];done)
 . simp only[go_sem];have:i=d.length:=by simp at h2;omega
   subst this;refine BU ?_;simp only[go_sem];rw[Bv] at he;simp only[Ph] at he;rw[<-he,Vz _ _ (Ai _)];exact ⟨(Dx acc).symm,rfl⟩
end Go.Am
end
