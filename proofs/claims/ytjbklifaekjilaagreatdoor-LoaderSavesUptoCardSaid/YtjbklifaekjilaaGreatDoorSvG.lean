/- Texts of this proof, what it rests on, merged: part G. -/
import Derived.Shelf.Strings.Builder1
import Derived.Shelf.Strings.Builder2
import Derived.Shelf.Strings.OnBuilder
import Derived.Shelf.Small.Bits
import Derived.Shelf.Strings.BuilderF
import Derived.Shelf.Strings.BuilderK
import Derived.Shelf.Strconv.Itoa0
import Derived.Shelf.Strconv.Itoa1
import Derived.Shelf.LaysM
import Derived.Shelf.Strconv.Itoa2
import Derived.Shelf.Strconv.Itoa3
import Derived.Shelf.Strings.Search1
import Derived.Shelf.Strings.Search2
import Derived.Shelf.Strings.Search3
import Derived.Shelf.Strings.Count
import Derived.Shelf.Strings.Shaped
import Derived.Shelf.GgClosure.StringsIndexFunc
import Derived.Ground.GgwProg
import Derived.Shelf.GgClosure.StringsIndexFuncTop
import Derived.Shelf.GgClosure.StringsRunes
import Derived.Shelf.Strings.Prefix
import Derived.Shelf.Bits.Mul64
import Derived.Shelf.Strings.Repeat
import Derived.Shelf.Unicode.DecodeSlow
import Derived.Shelf.Unicode.DecodeAny
import Derived.Shelf.Strings.FuncGrows
import Derived.Test.YtjbklifaekjilaaGreatDoorSvF
section
namespace Go.Proofs
open Go.Shelf
def Tryz.PI:Go.Shelf.Ren:=⟨fun | 156=>97 | 165=>135 | 166=>95 | 169=>98 | 240=>132 | 241=>165 | 276=>161 | 277=>184 | n=>n,fun | 31=>26 | 9=>9 | 3=>3 | 4=>4 | 0=>0 | 20=>20 | 72=>142 | 76=>145 | 70=>140 | 37=>72 | 75=>144 | 127=>176 | 164=>197 | 5=>5 | 80=>149 | n=>n,fun | n=>n⟩
theorem Tryz.Am7:Go.Proofs.Lays.n156 Tryz.prog Tryz.PI:={
 mixed:=by kernel_rfl
 f156:=Tryz.func97.trans (congrArg some (by kernel_rfl))
 f165:=Tryz.func135.trans (congrArg some (by kernel_rfl))
 f166:=Tryz.func95.trans (congrArg some (by kernel_rfl))
 f169:=Tryz.func98.trans (congrArg some (by kernel_rfl))
 f240:=Tryz.func132.trans (congrArg some (by kernel_rfl))
 f241:=Tryz.func165.trans (congrArg some (by kernel_rfl))
 f276:=Tryz.func161.trans (congrArg some (by kernel_rfl))
 f277:=Tryz.func184.trans (congrArg some (by kernel_rfl))
 t0:=Tryz.underlying0
 a0:=Tryz.isAgg0
 z0:=Tryz.sizeOf0
 v0:=Tryz.zeroValue0
 t3:=Tryz.underlying3
 a3:=Tryz.isAgg3
 z3:=Tryz.sizeOf3
 v3:=Tryz.zeroValue3
 t4:=Tryz.underlying4
 a4:=Tryz.isAgg4
 z4:=Tryz.sizeOf4
 v4:=Tryz.zeroValue4
 t9:=Tryz.underlying9
 a9:=Tryz.isAgg9
 z9:=Tryz.sizeOf9
 v9:=Tryz.zeroValue9
 t20:=Tryz.underlying20
 a20:=Tryz.isAgg20
 z20:=Tryz.sizeOf20
 v20:=Tryz.zeroValue20
 t31:=Tryz.underlying26
 a31:=Tryz.isAgg26
 z31:=Tryz.sizeOf26
 v31:=Tryz.zeroValue26
 t37:=Tryz.underlying72
 a37:=Tryz.isAgg72
 z37:=Tryz.sizeOf72
 v37:=Tryz.zeroValue72
 t70:=Tryz.underlying140
 a70:=Tryz.isAgg140
 z70:=Tryz.sizeOf140
 v70:=Tryz.zeroValue140
 t72:=Tryz.underlying142
 a72:=Tryz.isAgg142
 z72:=Tryz.sizeOf142
 v72:=Tryz.zeroValue142
 t75:=Tryz.underlying144
 a75:=Tryz.isAgg144
 z75:=Tryz.sizeOf144
 v75:=Tryz.zeroValue144
 t76:=Tryz.underlying145
 a76:=Tryz.isAgg145
 z76:=Tryz.sizeOf145
 v76:=Tryz.zeroValue145
 t127:=Tryz.underlying176
 a127:=Tryz.isAgg176
 z127:=Tryz.sizeOf176
 v127:=Tryz.zeroValue176
 t164:=Tryz.underlying197
 a164:=Tryz.isAgg197
 z164:=Tryz.sizeOf197
 v164:=Tryz.zeroValue197}
theorem Tryz.Oi:Builder.Extra Tryz.prog Tryz.PI:={
 sizeBuilder:=by kernel_rfl
 liesBuilder:=by kernel_rfl
 t5:=Tryz.underlying5
 a5:=Tryz.isAgg5
 z5:=Tryz.sizeOf5
 v5:=Tryz.zeroValue5
 infoByte:=by kernel_rfl
 cellsByte:=by kernel_rfl
 sizeByte:=by kernel_rfl
 neB5:=by decide}
open Go.RowKit in
theorem Tryz.strings_Join (bk o c:Nat) (xs:List ByteArray) (sep:ByteArray) (w:World) (Bd:∀(j:Nat) x,xs[j]?=some x→w.cell? ⟨bk,o+j,none⟩=some (.string x)) (hbk:bk<w.heap.size) (hN:xs.length≤140737488355328) (Hx:xs.length≤c) (hlen:(Lib.join (xs.map (·.data.toList)) sep.data.toList).length≤140737488355328):
    Calls Tryz.prog 97 #[.slice (some ⟨bk,o,none⟩) xs.length c,.string sep] w fun e w'=>e= .returned (.string ⟨(Lib.join (xs.map (·.data.toList)) sep.data.toList).toArray⟩)∧Below w.heap.size w w':=Any.strings_Join Tryz.Am7 Tryz.Oi bk o c xs sep w Bd hbk hN Hx hlen
def Tryz.U6:Go.Shelf.Ren:=⟨fun | 171=>93 | 243=>129 | 246=>159 | 283=>180 | 284=>181 | 285=>182 | 286=>183 | 129=>154 | 317=>191 | 318=>192 | 319=>193 | 320=>194 | 337=>197 | 338=>198 | n=>n,fun | 3=>3 | 9=>9 | 2=>2 | 4=>4 | 171=>215 | 0=>0 | 53=>192 | 37=>72 | 5=>5 | 173=>217 | 212=>223 | 51=>190 | 20=>20 | 213=>224 | 46=>160 | 232=>230 | 233=>231 | n=>n,fun | 17=>1 | 18=>4 | 19=>5 | n=>n⟩
theorem Tryz.Ags:Go.Proofs.LaysM.n171 Tryz.prog Tryz.U6:={
 mixed:=by kernel_rfl
 f129:=Tryz.func154.trans (congrArg some (by kernel_rfl))
 f171:=Tryz.func93.trans (congrArg some (by kernel_rfl))
 f243:=Tryz.func129.trans (congrArg some (by kernel_rfl))
 f246:=Tryz.func159.trans (congrArg some (by kernel_rfl))
 f283:=Tryz.func180.trans (congrArg some (by kernel_rfl))
 f284:=Tryz.func181.trans (congrArg some (by kernel_rfl))
 f285:=Tryz.func182.trans (congrArg some (by kernel_rfl))
 f286:=Tryz.func183.trans (congrArg some (by kernel_rfl))
 f317:=Tryz.func191.trans (congrArg some (by kernel_rfl))
 f318:=Tryz.func192.trans (congrArg some (by kernel_rfl))
 f319:=Tryz.func193.trans (congrArg some (by kernel_rfl))
 f320:=Tryz.func194.trans (congrArg some (by kernel_rfl))
 f337:=Tryz.func197.trans (congrArg some (by kernel_rfl))
 f338:=Tryz.func198.trans (congrArg some (by kernel_rfl))
 t0:=Tryz.underlying0
 a0:=Tryz.isAgg0
 z0:=Tryz.sizeOf0
 v0:=Tryz.zeroValue0
 t2:=Tryz.underlying2
 a2:=Tryz.isAgg2
 z2:=Tryz.sizeOf2
 v2:=Tryz.zeroValue2
 t3:=Tryz.underlying3
 a3:=Tryz.isAgg3
 z3:=Tryz.sizeOf3
 v3:=Tryz.zeroValue3
 t4:=Tryz.underlying4
 a4:=Tryz.isAgg4
 z4:=Tryz.sizeOf4
 v4:=Tryz.zeroValue4
 t5:=Tryz.underlying5
 a5:=Tryz.isAgg5
 z5:=Tryz.sizeOf5
 v5:=Tryz.zeroValue5
 t9:=Tryz.underlying9
 a9:=Tryz.isAgg9
 z9:=Tryz.sizeOf9
 v9:=Tryz.zeroValue9
 t20:=Tryz.underlying20
 a20:=Tryz.isAgg20
 z20:=Tryz.sizeOf20
 v20:=Tryz.zeroValue20
 t37:=Tryz.underlying72
 a37:=Tryz.isAgg72
 z37:=Tryz.sizeOf72
 v37:=Tryz.zeroValue72
 t46:=Tryz.underlying160
 a46:=Tryz.isAgg160
 z46:=Tryz.sizeOf160
 v46:=Tryz.zeroValue160
 t51:=Tryz.underlying190
 a51:=Tryz.isAgg190
 z51:=Tryz.sizeOf190
 v51:=Tryz.zeroValue190
 t53:=Tryz.underlying192
 a53:=Tryz.isAgg192
 z53:=Tryz.sizeOf192
 v53:=Tryz.zeroValue192
 t171:=Tryz.underlying215
 a171:=Tryz.isAgg215
 z171:=Tryz.sizeOf215
 v171:=Tryz.zeroValue215
 t173:=Tryz.underlying217
 a173:=Tryz.isAgg217
 z173:=Tryz.sizeOf217
 v173:=Tryz.zeroValue217
 t212:=Tryz.underlying223
 a212:=Tryz.isAgg223
 z212:=Tryz.sizeOf223
 v212:=Tryz.zeroValue223
 t213:=Tryz.underlying224
 a213:=Tryz.isAgg224
 z213:=Tryz.sizeOf224
 t232:=Tryz.underlying230
 a232:=Tryz.isAgg230
 z232:=Tryz.sizeOf230
 v232:=Tryz.zeroValue230
 t233:=Tryz.underlying231
 a233:=Tryz.isAgg231
 z233:=Tryz.sizeOf231
 v233:=Tryz.zeroValue231
 g17:=by kernel_rfl
 g18:=by kernel_rfl
 g19:=by kernel_rfl
 i0:=by kernel_rfl
 i2:=by kernel_rfl
 i3:=by kernel_rfl
 i4:=by kernel_rfl
 i5:=by kernel_rfl
 i9:=by kernel_rfl
 i20:=by kernel_rfl
 i37:=by kernel_rfl
 i46:=by kernel_rfl
 i51:=by kernel_rfl
 i53:=by kernel_rfl
 i171:=by kernel_rfl
 i173:=by kernel_rfl
 i212:=by kernel_rfl
 i232:=by kernel_rfl
 i233:=by kernel_rfl
 m17:=by kernel_rfl
 m18:=by kernel_rfl
 m19:=by kernel_rfl}
open Go.RowKit Go.Sort Go.Lib in
theorem Tryz.strconv_Itoa (n:Int) (h0:-9223372036854775808≤n) (h1:n≤9223372036854775807) (w:World) (Amk:Lib.TabIs Tryz.prog w "internal/strconv.uint64pow10" .u64 Lib.pow10Tab):
    Calls Tryz.prog 93 #[.int .i64 n] w fun e w'=>e= .returned (.string ⟨(Lib.itoa n).toArray⟩)∧∃k os,w'=grow (w.drewN k) os:=Any.strconv_Itoa Tryz.Ags n h0 h1 w Amk
def Tryz.U7:Go.Shelf.Ren:=⟨fun | 15=>130 | 20=>160 | n=>n,fun | 9=>9 | 23=>171 | 3=>3 | 4=>4 | 0=>0 | 21=>21 | n=>n,fun | n=>n⟩
theorem Tryz.Agt:Go.Proofs.LaysGw.n15 Tryz.prog Tryz.U7:={
 mixed:=by kernel_rfl
 f15:=Tryz.func130.trans (congrArg some (by kernel_rfl))
 f20:=Tryz.func160.trans (congrArg some (by kernel_rfl))
 t0:=Tryz.underlying0
 a0:=Tryz.isAgg0
 z0:=Tryz.sizeOf0
 v0:=Tryz.zeroValue0
 i0:=by kernel_rfl
 t3:=Tryz.underlying3
 a3:=Tryz.isAgg3
 z3:=Tryz.sizeOf3
 v3:=Tryz.zeroValue3
 i3:=by kernel_rfl
 t4:=Tryz.underlying4
 a4:=Tryz.isAgg4
 z4:=Tryz.sizeOf4
 v4:=Tryz.zeroValue4
 i4:=by kernel_rfl
 t9:=Tryz.underlying9
 a9:=Tryz.isAgg9
 z9:=Tryz.sizeOf9
 v9:=Tryz.zeroValue9
 i9:=by kernel_rfl
 t21:=Tryz.underlying21
 a21:=Tryz.isAgg21
 z21:=Tryz.sizeOf21
 v21:=Tryz.zeroValue21
 i21:=by kernel_rfl
 t23:=Tryz.underlying171
 a23:=Tryz.isAgg171
 z23:=Tryz.sizeOf171
 v23:=Tryz.zeroValue171
 i23:=by kernel_rfl}
def Tryz.PJ:Go.Shelf.Ren:=⟨fun | 105=>96 | 212=>133 | 99=>134 | 165=>135 | 166=>95 | 170=>136 | 169=>98 | 263=>162 | 264=>163 | 206=>164 | 240=>132 | 241=>165 | 276=>161 | 277=>184 | n=>n,fun | 9=>9 | 3=>3 | 4=>4 | 20=>20 | 0=>0 | 46=>160 | 109=>172 | 5=>5 | 72=>142 | 76=>145 | 51=>190 | 146=>199 | 53=>192 | 148=>201 | 70=>140 | 37=>72 | 75=>144 | 127=>176 | 164=>197 | 80=>149 | n=>n,fun | n=>n⟩
theorem Tryz.Am8:Go.Proofs.Lays.n105 Tryz.prog Tryz.PJ:={
 mixed:=by kernel_rfl
 f99:=Tryz.func134.trans (congrArg some (by kernel_rfl))
 f105:=Tryz.func96.trans (congrArg some (by kernel_rfl))
 f165:=Tryz.func135.trans (congrArg some (by kernel_rfl))
 f166:=Tryz.func95.trans (congrArg some (by kernel_rfl))
 f169:=Tryz.func98.trans (congrArg some (by kernel_rfl))
 f170:=Tryz.func136.trans (congrArg some (by kernel_rfl))
 f206:=Tryz.func164.trans (congrArg some (by kernel_rfl))
 f212:=Tryz.func133.trans (congrArg some (by kernel_rfl))
 f240:=Tryz.func132.trans (congrArg some (by kernel_rfl))
 f241:=Tryz.func165.trans (congrArg some (by kernel_rfl))
 f263:=Tryz.func162.trans (congrArg some (by kernel_rfl))
 f264:=Tryz.func163.trans (congrArg some (by kernel_rfl))
 f276:=Tryz.func161.trans (congrArg some (by kernel_rfl))
 f277:=Tryz.func184.trans (congrArg some (by kernel_rfl))
 t0:=Tryz.underlying0
 a0:=Tryz.isAgg0
 z0:=Tryz.sizeOf0
 v0:=Tryz.zeroValue0
 t3:=Tryz.underlying3
 a3:=Tryz.isAgg3
 z3:=Tryz.sizeOf3
 v3:=Tryz.zeroValue3
 t4:=Tryz.underlying4
 a4:=Tryz.isAgg4
 z4:=Tryz.sizeOf4
 v4:=Tryz.zeroValue4
 t5:=Tryz.underlying5
 a5:=Tryz.isAgg5
 z5:=Tryz.sizeOf5
 v5:=Tryz.zeroValue5
 t9:=Tryz.underlying9
 a9:=Tryz.isAgg9
 z9:=Tryz.sizeOf9
 v9:=Tryz.zeroValue9
 t20:=Tryz.underlying20
 a20:=Tryz.isAgg20
 z20:=Tryz.sizeOf20
 v20:=Tryz.zeroValue20
 t37:=Tryz.underlying72
 a37:=Tryz.isAgg72
 z37:=Tryz.sizeOf72
 v37:=Tryz.zeroValue72
 t46:=Tryz.underlying160
 a46:=Tryz.isAgg160
 z46:=Tryz.sizeOf160
 v46:=Tryz.zeroValue160
 t51:=Tryz.underlying190
 a51:=Tryz.isAgg190
 z51:=Tryz.sizeOf190
 v51:=Tryz.zeroValue190
 t53:=Tryz.underlying192
 a53:=Tryz.isAgg192
 z53:=Tryz.sizeOf192
 v53:=Tryz.zeroValue192
 t70:=Tryz.underlying140
 a70:=Tryz.isAgg140
 z70:=Tryz.sizeOf140
 v70:=Tryz.zeroValue140
 t72:=Tryz.underlying142
 a72:=Tryz.isAgg142
 z72:=Tryz.sizeOf142
 v72:=Tryz.zeroValue142
 t75:=Tryz.underlying144
 a75:=Tryz.isAgg144
 z75:=Tryz.sizeOf144
 v75:=Tryz.zeroValue144
 t76:=Tryz.underlying145
 a76:=Tryz.isAgg145
 z76:=Tryz.sizeOf145
 v76:=Tryz.zeroValue145
 t109:=Tryz.underlying172
 a109:=Tryz.isAgg172
 z109:=Tryz.sizeOf172
 v109:=Tryz.zeroValue172
 t127:=Tryz.underlying176
 a127:=Tryz.isAgg176
 z127:=Tryz.sizeOf176
 v127:=Tryz.zeroValue176
 t146:=Tryz.underlying199
 a146:=Tryz.isAgg199
 z146:=Tryz.sizeOf199
 v146:=Tryz.zeroValue199
 t148:=Tryz.underlying201
 a148:=Tryz.isAgg201
 z148:=Tryz.sizeOf201
 v148:=Tryz.zeroValue201
 t164:=Tryz.underlying197
 a164:=Tryz.isAgg197
 z164:=Tryz.sizeOf197
 v164:=Tryz.zeroValue197}
theorem Tryz.Oj:Builder.Extra Tryz.prog Tryz.PJ:={
 sizeBuilder:=by kernel_rfl
 liesBuilder:=by kernel_rfl
 t5:=Tryz.underlying5
 a5:=Tryz.isAgg5
 z5:=Tryz.sizeOf5
 v5:=Tryz.zeroValue5
 infoByte:=by kernel_rfl
 cellsByte:=by kernel_rfl
 sizeByte:=by kernel_rfl
 neB5:=by decide}
open Go.RowKit Go.Lib in
theorem Tryz.strings_Repeat (s:ByteArray) (c:Nat) (w:World) (hc:c≤9223372036854775807) (hlen:s.size*c≤140737488355328):
    Calls Tryz.prog 96 #[.string s,.int .i64 c] w fun e w'=>e= .returned (.string ⟨(Lib.repeatL s.data.toList c).toArray⟩)∧Below w.heap.size w w':=Any.strings_Repeat Tryz.Am8 Tryz.Oj s c w hc hlen
open Go.RowKit Go.Lib in
theorem Tryz.strings_IndexFunc_grows (g:Nat) (lb:Array Value) (eg:∀args w,(callFunc g args).run Tryz.prog w= .ok (.enter g args) w) (p:Nat→Bool) (s:ByteArray) (w:World) (hp:PredGrows Tryz.prog g lb p w):
    Calls Tryz.prog 130 #[.string s,.func (.func g) #[] lb] w fun e w'=>e= .returned (.int .i64 (Lib.idxFunc p true s))∧Below w.heap.size w w':=Any.strings_IndexFunc_grows Tryz.Agt g lb eg p s w hp
end Go.Proofs
end
section
namespace Go.Am
open Go Go.Proofs
set_option maxRecDepth 100000
set_option linter.unusedVariables false
set_option linter.unusedSimpArgs false
set_option maxHeartbeats 2000000
def Hc:List Pd:=Mi .u64 Lib.pow10Tab
theorem Ama (n:Int) (h0:-9223372036854775808≤n) (h1:n≤9223372036854775807):Aj Tryz.prog 93 [.p (.int .i64 n)] [(1000000,(.BK 1 Hc))] fun h r=>h=[(1000000,(.BK 1 Hc))]∧r= .p (.str (MQ n)):=by
 rw[←Abe];exact Yf (by kernel_rfl) Ai8 (fun n w h0 h1 ht=>Tryz.strconv_Itoa n h0 h1 w ht) n h0 h1
def An0 (r:List Ln×Int):D:= .BA [.p (.sl (CN r.1)),.p (.int .i64 r.2)]
theorem Ahz (d:List Dc) (hd:d.length≤10000000) (hs:∀x∈d,x.names.length≤10000000∧x.AJ.length≤10000000):
   Aj Tryz.prog 51 [.p (.sl (BO d))] [(1000000,(.BK 1 Hc))] fun h r=>h=[(1000000,(.BK 1 Hc))]∧r=An0 (IP d []):=by
 refine Ak Tryz.func51 rfl Aj0 (by simp[Tryz.f51]) ?_;simp only[go_sem,A8];refine Ao (fun q:Nat×List Ln=>⟨[(10,.p (.sl (BO d))),(11,.p (.int .i64 (d.length:Nat))),(12,.p (.int .i64 (q.1:Nat))),(4,.ref 49 0 q.2.length q.2.length)],[(49,.arr 80 2 (CN q.2)),(1000000,(.BK 1 Hc))],52⟩)
   (fun q=>q.1≤d.length∧q.2.length≤q.1∧IP (d.drop q.1) q.2=IP d []) (fun q=>d.length - q.1) (0,[]) ⟨Nat.zero_le _,by simp,by simp⟩ ((Wk.nil (t:=4) (q:=49) (sz:=2) 80 rfl rfl (by decide)).trans (Wk.forget (by simp[Le,AG,Av,get,Aa,Ac,Ad,D.ids,Ai,AO.ids,Ae,base,CN]))) ?_
 rintro ⟨i,acc⟩ n ⟨hi,ha,he⟩ ih;simp only at hi ha he;simp only[go_sem];refine AK (fun h2=>?_) (fun h2=>?_)
 · have AL:i<d.length:=by simp at h2;omega
   have hw:=As i (by omega);have RH:=Bn d i Im AL;rw[RH] at he;have hx:=hs _ (A7 d i Im AL);have hg:=R9 d i AL;generalize hxe:d.getD i Im=x at*;have Bm:(0:Int)≤(i:Int)∧(i:Int)<(d.length:Int):=by omega
   simp only[go_sem,A8,Int.toNat_natCast,hg,Bm];refine Au ((Wa x ⟨hx.1,hx.2⟩).BK (id:=1000000) (by decide) rfl (by simp[Ai,D.ids,Ac,Dc.d]) (fun h1 r hr=>by rw[hr.1];rfl)) ?_;rintro h' r ⟨_,⟨rfl,rfl⟩,rfl⟩;simp only[go_sem];cases hv:BD x
   · simp only[go_sem];refine Ah ?_;simp only[go_sem];simp only[IP,hv] at he;rw[←he];rfl
   · obtain ⟨NL,TS,hw3,Zn,hw5⟩:=(EC x).1 hv;obtain ⟨word,line,names,AJ⟩:=x;simp only at NL TS hw3 Zn hw5 hx hg;obtain ⟨j,rfl⟩:∃j:Nat,word=(j:Int):=⟨word.toNat,by omega⟩;have hj:j<7:=by omega
     have hfc:=MG j hj;have M6:j*3+3≤(Fw.flatMap fmC).length:=by rw[IN];omega
     have TV:(0:Int)≤(j:Int)∧(j:Int)<7:=by omega
     have hdt:List.take 3 (List.drop (j*3) (List.map D.p (Fw.flatMap fmC)))=[.p (.str (Ct j).word),.p (.str (Ct j).fields),.p (.bool (Ct j).more)]:=by
       rw[←List.map_drop,←List.map_take,hfc];rfl
     have hfw:[[Pd.str (Ct j).word]]++AV names=AV ((Ct j).word::names):=rfl;have W1:I1 1 (AV names):=by simp[I1,AV]
     simp only[go_sem];refine AY mixed (p:=[(0,0),(1,0),(3,0),(4,0),(8,0),(9,0),(12,1),(2,2),(5,0),(6,0),(7,1),(10,2),(11,0),(13,3)]) (by kernel_rfl) (by simp[Av,get]) ?_;simp only[go_sem];refine Bu (RM.BK (id:=1000000) (by decide) rfl (by simp[Ai,D.ids,Ac]) (fun h1 r hr=>by rw[hr.1];rfl)) ?_;rintro h' r ⟨_,⟨rfl,rfl⟩,rfl⟩;simp only[go_sem,Int.toNat_natCast,M6,hdt,TV,hfw,Aq];refine ⟨⟨W1,by omega,by omega⟩,?_⟩;refine Ao (fun q:Nat×List (List UInt8)=>⟨[(4,.ref 49 0 acc.length acc.length),(7,.ptr 7 0),(10,.p (.sl (BO d))),(11,.p (.int .i64 (d.length:Nat))),(12,.p (.int .i64 (i:Nat))),
         (32,.p (.sl (Ag AJ))),(33,.p (.int .i64 (AJ.length:Nat))),(34,.p (.int .i64 (q.1:Nat)))],
         [(7,.box [.p (.int .i64 line),.ref 26 0 q.2.length q.2.length]),(26,.arr 9 1 (AV q.2)),(49,.arr 80 2 (CN acc)),(1000000,(.BK 1 Hc))],52⟩)
       (fun q=>q.1≤AJ.length∧q.2.length≤10000001+q.1∧q.2++(AJ.drop q.1).map MQ=CT ⟨j,line,names,AJ⟩) (fun q=>AJ.length - q.1) (0,(Ct j).word::names) ⟨Nat.zero_le _,by simp;omega,by simp[CT]⟩
       (Wk.forget (by simp[Le,AG,Av,get,Aa,Ac,Ad,D.ids,Ai,AO.ids,Ae,base,Ab,AV])) ?_
     rintro ⟨m,fs⟩ n2 ⟨hm,hfs,he2⟩ Fi;simp only at hm hfs he2;simp only[go_sem];refine AK (fun h3=>?_) (fun h3=>?_)
     · have Zt:m<AJ.length:=by simp at h3;omega
       have hwm:=As m (by omega);have hgm:=AD AJ m Zt;have hnm:-9223372036854775808≤AJ.getD m 0∧AJ.getD m 0≤9223372036854775807:=by
         have:=hw5 _ (A7 AJ m 0 Zt);omega
       rw[Bn AJ m 0 Zt] at he2;generalize hk:AJ.getD m 0=k at*;have hm0:(0:Int)≤(m:Int)∧(m:Int)<(AJ.length:Int):=by omega
       simp only[go_sem,Ab,Int.toNat_natCast,hgm,hm0];refine BB [(7,.box [.p (.int .i64 line),.ref 26 0 fs.length fs.length]),(1000000,(.BK 1 Hc))] mixed (p:=[(0,0),(1,0),(2,0),(3,2),(4,1),(5,2),(6,0),(7,3)]) (by kernel_rfl) (by simp[Av,get]) ?_;simp only[go_sem];refine Bu (Ama k hnm.1 hnm.2) ?_;rintro h' r ⟨rfl,rfl⟩;simp only[go_sem,Aq];refine ⟨⟨Cf _ _ rfl,by omega⟩,?_⟩;simp only[go_sem,hwm];refine Fi (m+1,fs++[MQ k]) _ ⟨Zt,by simp;omega,by rw[←he2];simp⟩ (by simp only;omega) ?_
       (refine Wk.forget ?_;simp[Le,AG,Av,get,Aa,Ac,Ad,D.ids,Ai,AO.ids,Ae,base,CP,Aq];done)
     · have hml:m=AJ.length:=by simp at h3;omega
       subst hml;simp only[List.drop_length,List.map_nil,List.append_nil] at he2;simp only[go_sem,Aq,A5,G5 fs fs.length (Nat.le_refl _),hw];refine ⟨⟨Cf _ _ rfl,by omega⟩,?_⟩;simp only[IP,hv,if_true] at he;refine ih (i+1,acc++[⟨line,fs⟩]) _ ⟨AL,by simp;omega,by rw[he2];exact he⟩ (by simp only;omega) ?_
       (refine Wk.forget ?_;simp[Le,AG,Av,get,Aa,Ac,Ad,D.ids,Ai,AO.ids,Ae,base,IS,A5];done)
 · simp only[go_sem];have:i=d.length:=by simp at h2;omega
   subst this;refine Ah ?_;simp only[go_sem];rw[List.drop_length] at he;simp only[IP] at he;rw[←he,Pg _ _ (Nat.le_refl _)];exact ⟨(A5 acc).symm,rfl⟩
end Go.Am
end
