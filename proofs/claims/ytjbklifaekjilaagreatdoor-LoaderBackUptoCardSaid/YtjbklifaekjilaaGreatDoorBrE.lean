/- Texts of this proof, what it rests on, merged: part E. -/
import Derived.Test.YtjbklifaekjilaaGreatDoorProg
import Derived.KernelRfl
import Derived.Test.YtjbklifaekjilaaGreatDoorBrD
noncomputable section
namespace Go.Am
open Go Go.Proofs
open Tryz
set_option maxRecDepth 100000
set_option linter.unusedVariables false
set_option linter.unusedSimpArgs false
set_option maxHeartbeats 2000000
theorem ti2:CC prog 2=some ⟨1,8,.int .i64,.p (.int .i64 0)⟩:=by kernel_rfl
theorem ti3:CC prog 3=some ⟨1,8,.int .i64,.p (.int .i64 0)⟩:=by kernel_rfl
theorem ti4:CC prog 4=some ⟨1,1,.bool,.p (.bool false)⟩:=by kernel_rfl
theorem ti5:CC prog 5=some ⟨1,1,.int .u8,.p (.int .u8 0)⟩:=by kernel_rfl
theorem ti9:CC prog 9=some ⟨1,16,.string,.p (.str [])⟩:=by kernel_rfl
theorem Bag:CC prog 21=some ⟨1,4,.int .i32,.p (.int .i32 0)⟩:=by kernel_rfl
theorem Ain:CC prog 22=some ⟨1,24,.slice 3,.cl []⟩:=by kernel_rfl
theorem Baf:CC prog 26=some ⟨1,24,.slice 9,.cl []⟩:=by kernel_rfl
theorem Bae:CC prog 27=some ⟨1,24,.slice 76,.cl []⟩:=by kernel_rfl
theorem Adi:CC prog 28=some ⟨1,24,.slice 22,.cl []⟩:=by kernel_rfl
theorem Bad:CC prog 29=some ⟨1,24,.slice 68,.cl []⟩:=by kernel_rfl
theorem Bac:CC prog 31=some ⟨4,32,.struct [(0,3),(1,3),(2,3),(3,3)],.agg [.p (.int .i64 0),.p (.int .i64 0),.p (.int .i64 0),.p (.int .i64 0)]⟩:=by kernel_rfl
theorem Bck:Wg prog 31=some [.int,.int,.int,.int]:=by kernel_rfl
theorem Bab:CC prog 33=some ⟨8,128,.struct [(0,27),(1,28),(2,29),(3,22),(4,31)],.agg [.cl [],.cl [],.cl [],.cl [],.p (.int .i64 0),.p (.int .i64 0),.p (.int .i64 0),.p (.int .i64 0)]⟩:=by kernel_rfl
theorem Baa:CC prog 35=some ⟨4,48,.struct [(0,3),(1,22),(2,3),(3,3)],.agg [.p (.int .i64 0),.cl [],.p (.int .i64 0),.p (.int .i64 0)]⟩:=by kernel_rfl
theorem Ba9:CC prog 42=some ⟨1,24,.slice 80,.cl []⟩:=by kernel_rfl
theorem Ba8:CC prog 45=some ⟨1,24,.slice 82,.cl []⟩:=by kernel_rfl
theorem Ba7:CC prog 52=some ⟨1,24,.slice 4,.cl []⟩:=by kernel_rfl
theorem Ba6:CC prog 60=some ⟨2,32,.struct [(0,22),(1,3)],.agg [.cl [],.p (.int .i64 0)]⟩:=by kernel_rfl
theorem Ba5:CC prog 68=some ⟨6,56,.struct [(0,9),(1,4),(2,3),(3,3),(4,3),(5,3)],.agg [.p (.str []),.p (.bool false),.p (.int .i64 0),.p (.int .i64 0),.p (.int .i64 0),.p (.int .i64 0)]⟩:=by kernel_rfl
theorem Bcj:Wg prog 68=some [.str,.bool,.int,.int,.int,.int]:=by kernel_rfl
theorem Apa:CC prog 72=some ⟨1,24,.slice 5,.cl []⟩:=by kernel_rfl
theorem Ba4:CC prog 76=some ⟨3,32,.struct [(0,9),(1,3),(2,3)],.agg [.p (.str []),.p (.int .i64 0),.p (.int .i64 0)]⟩:=by kernel_rfl
theorem Bci:Wg prog 76=some [.str,.int,.int]:=by kernel_rfl
theorem Ba3:CC prog 80=some ⟨2,32,.struct [(0,3),(1,26)],.agg [.p (.int .i64 0),.cl []]⟩:=by kernel_rfl
theorem Ba2:CC prog 82=some ⟨4,64,.struct [(0,3),(1,3),(2,26),(3,22)],.agg [.p (.int .i64 0),.p (.int .i64 0),.cl [],.cl []]⟩:=by kernel_rfl
theorem Ba1:CC prog 91=some ⟨24,24,.array 24 4,.agg [.p (.bool false),.p (.bool false),.p (.bool false),.p (.bool false),.p (.bool false),.p (.bool false),.p (.bool false),.p (.bool false),.p (.bool false),.p (.bool false),.p (.bool false),.p (.bool false),.p (.bool false),.p (.bool false),.p (.bool false),.p (.bool false),.p (.bool false),.p (.bool false),.p (.bool false),.p (.bool false),.p (.bool false),.p (.bool false),.p (.bool false),.p (.bool false)]⟩:=by kernel_rfl
theorem Ba0:CC prog 95=some ⟨1,8,.other,.bad⟩:=by kernel_rfl
theorem Azz:CC prog 98=some ⟨1,8,.other,.bad⟩:=by kernel_rfl
theorem Aws:CC prog 115=some ⟨1,24,.slice 120,.cl []⟩:=by kernel_rfl
theorem Awr:CC prog 117=some ⟨14,208,.struct [(0,33),(8,95),(9,95),(10,22),(11,3),(12,115),(13,4)],.agg [.cl [],.cl [],.cl [],.cl [],.p (.int .i64 0),.p (.int .i64 0),.p (.int .i64 0),.p (.int .i64 0),.bad,.bad,.cl [],.p (.int .i64 0),.cl [],.p (.bool false)]⟩:=by kernel_rfl
theorem Awq:CC prog 120=some ⟨2,16,.array 2 3,.agg [.p (.int .i64 0),.p (.int .i64 0)]⟩:=by kernel_rfl
theorem Ayw:Wg prog 120=some [.int,.int]:=by kernel_rfl
theorem Asg:CC prog 137=some ⟨3,40,.struct [(0,9),(1,9),(2,4)],.agg [.p (.str []),.p (.str []),.p (.bool false)]⟩:=by kernel_rfl
theorem Asf:CC prog 138=some ⟨21,280,.array 7 137,.agg [.p (.str []),.p (.str []),.p (.bool false),.p (.str []),.p (.str []),.p (.bool false),.p (.str []),.p (.str []),.p (.bool false),.p (.str []),.p (.str []),.p (.bool false),.p (.str []),.p (.str []),.p (.bool false),.p (.str []),.p (.str []),.p (.bool false),.p (.str []),.p (.str []),.p (.bool false)]⟩:=by kernel_rfl
theorem Ase:CC prog 142=some ⟨2,32,.struct [(0,140),(1,72)],.agg [.np,.cl []]⟩:=by kernel_rfl
theorem Awp:CC prog 155=some ⟨1,24,.slice 137,.cl []⟩:=by kernel_rfl
theorem Awo:CC prog 160=some ⟨1,8,.int .u64,.p (.int .u64 0)⟩:=by kernel_rfl
theorem Awn:CC prog 163=some ⟨9,200,.struct [(0,28),(1,52),(2,22),(3,22),(4,22),(5,22),(6,22),(7,3),(8,22)],.agg [.cl [],.cl [],.cl [],.cl [],.cl [],.cl [],.cl [],.p (.int .i64 0),.cl []]⟩:=by kernel_rfl
theorem Awm:CC prog 192=some ⟨1,8,.int .u64,.p (.int .u64 0)⟩:=by kernel_rfl
theorem Ax0:mapOf prog 95=some (.str,.int .i64 0):=by kernel_rfl
theorem Ajx:mapOf prog 98=some (.int .i64,.bool false):=by kernel_rfl
theorem Acu:Enters prog 7:=call7
theorem Ar6:Enters prog 8:=call8
theorem An8:Enters prog 10:=call10
theorem An7:Enters prog 12:=call12
theorem An6:Enters prog 13:=call13
theorem An5:Enters prog 17:=call17
theorem An4:Enters prog 18:=call18
theorem An3:Enters prog 19:=call19
theorem An2:Enters prog 20:=call20
theorem An1:Enters prog 21:=call21
theorem An0:Enters prog 22:=call22
theorem Amz:Enters prog 24:=call24
theorem Amy:Enters prog 25:=call25
theorem Amx:Enters prog 26:=call26
theorem Amw:Enters prog 27:=call27
theorem Amv:Enters prog 28:=call28
theorem Amu:Enters prog 29:=call29
theorem Amt:Enters prog 30:=call30
theorem Ams:Enters prog 31:=call31
theorem Amr:Enters prog 32:=call32
theorem Amq:Enters prog 34:=call34
theorem Amp:Enters prog 38:=call38
theorem Amo:Enters prog 39:=call39
theorem ZP:Enters prog 40:=call40
theorem ZO:Enters prog 41:=call41
theorem Amn:Enters prog 42:=call42
theorem Amm:Enters prog 43:=call43
theorem Aml:Enters prog 44:=call44
theorem ZN:Enters prog 45:=call45
theorem Amk:Enters prog 46:=call46
theorem Amj:Enters prog 47:=call47
theorem Ami:Enters prog 48:=call48
theorem Amh:Enters prog 49:=call49
theorem Amg:Enters prog 50:=call50
theorem Amf:Enters prog 51:=call51
theorem Ame:Enters prog 52:=call52
theorem Amd:Enters prog 56:=call56
theorem Amc:Enters prog 57:=call57
theorem Amb:Enters prog 58:=call58
theorem Ama:Enters prog 59:=call59
theorem Am9:Enters prog 60:=call60
theorem Am8:Enters prog 61:=call61
theorem Am7:Enters prog 62:=call62
theorem Am6:Enters prog 63:=call63
theorem Am5:Enters prog 64:=call64
theorem Am4:Enters prog 65:=call65
theorem Am3:Enters prog 66:=call66
theorem ZM:Enters prog 67:=call67
theorem Am2:Enters prog 68:=call68
theorem Am1:Enters prog 73:=call73
theorem Am0:Enters prog 81:=call81
theorem Alz:Enters prog 82:=call82
theorem Aly:Enters prog 83:=call83
theorem Alx:Enters prog 84:=call84
theorem Alw:Enters prog 85:=call85
theorem Alv:Enters prog 86:=call86
theorem Alu:Enters prog 87:=call87
theorem Als:Enters prog 88:=call88
theorem ZL:Enters prog 89:=call89
theorem Alr:Enters prog 90:=call90
theorem Alq:Enters prog 91:=call91
theorem Alp:Enters prog 92:=call92
theorem Alo:Enters prog 93:=call93
theorem Aln:Enters prog 94:=call94
theorem ZK:Enters prog 95:=call95
theorem Alm:Enters prog 96:=call96
theorem All:Enters prog 97:=call97
theorem ZJ:Enters prog 98:=call98
theorem Agy:Enters prog 102:=call102
theorem Agx:Enters prog 103:=call103
theorem Agw:Enters prog 104:=call104
theorem Agv:Enters prog 105:=call105
theorem Agu:Enters prog 106:=call106
theorem Agt:Enters prog 107:=call107
theorem Ags:Enters prog 108:=call108
theorem Agr:Enters prog 109:=call109
theorem Agq:Enters prog 110:=call110
theorem Agp:Enters prog 111:=call111
theorem Ago:Enters prog 112:=call112
theorem Agn:Enters prog 113:=call113
theorem Agm:Enters prog 114:=call114
theorem Agl:Enters prog 115:=call115
theorem Agk:Enters prog 116:=call116
theorem Agj:Enters prog 117:=call117
theorem Agi:Enters prog 118:=call118
theorem Agh:Enters prog 119:=call119
theorem Agg:Enters prog 120:=call120
theorem Agf:Enters prog 123:=call123
theorem Age:Enters prog 124:=call124
theorem Agd:Enters prog 125:=call125
theorem Agc:Enters prog 126:=call126
theorem Agb:Enters prog 127:=call127
theorem Aga:Enters prog 128:=call128
theorem Ag9:Enters prog 130:=call130
theorem Rj:Enters prog 131:=call131
theorem Wn:Enters prog 132:=call132
theorem Ag8:Enters prog 133:=call133
theorem Ag7:Enters prog 138:=call138
theorem Ag6:Enters prog 139:=call139
theorem Ag5:Enters prog 140:=call140
theorem Ag4:Enters prog 141:=call141
theorem Ag3:Enters prog 142:=call142
theorem Ag2:Enters prog 143:=call143
theorem Ag1:Enters prog 144:=call144
theorem Ag0:Enters prog 150:=call150
theorem Afz:Enters prog 154:=call154
theorem Afy:Enters prog 155:=call155
theorem Afx:Enters prog 156:=call156
theorem Afw:Enters prog 157:=call157
theorem Afv:Enters prog 158:=call158
theorem Afu:Enters prog 163:=call163
theorem Aft:Enters prog 164:=call164
theorem Afs:Enters prog 169:=call169
theorem Afr:Enters prog 170:=call170
theorem Wm:Enters prog 171:=call171
theorem Afq:Enters prog 172:=call172
theorem Afp:Enters prog 178:=call178
theorem Afo:Enters prog 179:=call179
theorem Afn:Enters prog 186:=call186
theorem mixed:prog.follows .mixedOrders=true:=by kernel_rfl
attribute [go_sem] ti2 ti3 ti4 ti5 ti9 Bag Ain Baf
attribute [go_sem] Bae Adi Bad Bac Bck Bab Baa
attribute [go_sem] Ba9 Ba8 Ba7 Ba6 Ba5 Bcj Apa
attribute [go_sem] Ba4 Bci Ba3 Ba2 Ba1
attribute [go_sem] Ba0 Azz Aws Awr Awq Ayw Asg
attribute [go_sem] Asf Ase Awp Awo Awn
attribute [go_sem] Awm
attribute [go_sem] Ax0 Ajx
attribute [go_sem] ntmps7 results7 ntmps8 results8 ntmps10 results10
attribute [go_sem] ntmps12 results12 ntmps13 results13 ntmps17
attribute [go_sem] results17 ntmps18 results18 ntmps19 results19 ntmps20 results20 ntmps21 results21 ntmps22 results22
attribute [go_sem] ntmps24 results24 ntmps25 results25 ntmps26 results26 ntmps27 results27 ntmps28 results28 ntmps29
attribute [go_sem] results29 ntmps30 results30 ntmps31 results31 ntmps32 results32 ntmps34 results34
attribute [go_sem] ntmps38 results38 ntmps39 results39 ntmps40 results40 ntmps41
attribute [go_sem] results41 ntmps42 results42 ntmps43 results43 ntmps44 results44 ntmps45 results45 ntmps46 results46 ntmps47
attribute [go_sem] results47 ntmps48 results48 ntmps49 results49 ntmps50 results50 ntmps51 results51 ntmps52 results52
attribute [go_sem] ntmps56 results56 ntmps57 results57 ntmps58 results58 ntmps59
attribute [go_sem] results59 ntmps60 results60 ntmps61 results61 ntmps62 results62 ntmps63 results63 ntmps64 results64 ntmps65
attribute [go_sem] results65 ntmps66 results66 ntmps67 results67 ntmps68 results68
attribute [go_sem] ntmps73 results73
attribute [go_sem] ntmps81 results81 ntmps82 results82 ntmps83
attribute [go_sem] results83 ntmps84 results84 ntmps85 results85 ntmps86 results86 ntmps87 results87 ntmps88 results88 ntmps89
attribute [go_sem] results89 ntmps90 results90 ntmps91 results91 ntmps92 results92 ntmps93 results93 ntmps94 results94 ntmps95
attribute [go_sem] results95 ntmps96 results96 ntmps97 results97 ntmps98 results98
attribute [go_sem] ntmps102 results102 ntmps103 results103 ntmps104 results104 ntmps105 results105 ntmps106 results106 ntmps107
attribute [go_sem] results107 ntmps108 results108 ntmps109 results109 ntmps110 results110 ntmps111 results111 ntmps112 results112 ntmps113
attribute [go_sem] results113 ntmps114 results114 ntmps115 results115 ntmps116 results116 ntmps117 results117 ntmps118 results118 ntmps119
attribute [go_sem] results119 ntmps120 results120 ntmps123 results123 ntmps124 results124 ntmps125
attribute [go_sem] results125 ntmps126 results126 ntmps127 results127 ntmps128 results128 ntmps130 results130 ntmps131
attribute [go_sem] results131 ntmps132 results132 ntmps133 results133
attribute [go_sem] ntmps138 results138 ntmps139 results139 ntmps140 results140 ntmps141 results141 ntmps142 results142 ntmps143
attribute [go_sem] results143 ntmps144 results144
attribute [go_sem] ntmps150 results150 ntmps154 results154 ntmps155
attribute [go_sem] results155 ntmps156 results156 ntmps157 results157 ntmps158 results158
attribute [go_sem] ntmps163 results163 ntmps164 results164 ntmps169
attribute [go_sem] results169 ntmps170 results170 ntmps171 results171 ntmps172 results172
attribute [go_sem] ntmps178 results178 ntmps179 results179
attribute [go_sem] ntmps186 results186
attribute [go_sem ↓] reduceIte
attribute [go_sem] Nat.reduceLT Nat.reduceLeDiff Nat.reduceEqDiff Nat.reduceAdd Nat.reduceMul Nat.reduceSub reduceCtorEq Int.reduceLT Int.reduceLE Int.reduceEq Int.reduceToNat decide_true decide_false Int.reduceNeg Int.cast_ofNat_Int sg AO.sg Option.isNone_none
def BX(l:List Int):List (List Pd):=l.map λ n=>[.int .i64 n]
def CJ(l:List (List UInt8)):List (List Pd):=l.map λ s=>[.str s]
theorem BW(l:List Int):(BX l).length=l.length:=by simp[BX]
theorem Cj(l:List Int)(i:Nat)(h:i<l.length):(BX l).getD i []=[.int .i64 (l.getD i 0)]:=by simp[BX,List.getD,h]
theorem B6(l:List (List UInt8)):(CJ l).length=l.length:=by simp[CJ]
theorem D2(l:List (List UInt8))(i:Nat)(h:i<l.length):(CJ l).getD i []=[.str (l.getD i [])]:=by simp[CJ,List.getD,h]
theorem D5(l:List Int)(x:Int):BX (l++[x])=BX l++[[.int .i64 x]]:=by simp[BX]
theorem E8(l:List (List UInt8))(x:List UInt8):CJ (l++[x])=CJ l++[[.str x]]:=by simp[CJ]
theorem G8(l:List Int)(n:Nat)(h:l.length<=n):(BX l).take n=BX l:=List.take_of_length_le (by simpa [BX] using h)
theorem KG(l:List (List UInt8))(n:Nat)(h:l.length<=n):(CJ l).take n=CJ l:=List.take_of_length_le (by simpa [CJ] using h)
theorem EB(n:Nat)(x:List Pd)(h:x.length=n):LI n [x]:=by simp[LI,h]
theorem PY(l:List (List UInt8))(i:Nat)(x:List UInt8):CJ (l.set i x)=(CJ l).set i [.str x]:=by simp[CJ,BD]
theorem Db(l:List Int)(i:Nat)(x:Int):BX (l.set i x)=(BX l).set i [.int .i64 x]:=by simp[BX,BD]
theorem CK{α:Type}(l:List α)(i:Nat)(x:α)(h:i<l.length):l.getD i x∈l:=by simp only[List.getD,Ax h,AY];exact AS h
theorem DO{α:Type}(l:List α)(i:Nat)(x:α)(h:i<l.length):l.drop i=l.getD i x::l.drop (i+1):=by rw[AX h];simp[List.getD,h]
def Aop(x:Int):Prop:=-9223372036854775808<=x/\x<=9223372036854775807
theorem Cg(i:Nat)(h:i<9223372036854775807):IntKind.i64.wrap ((i:Int)+1)=((i+1:Nat):Int):=by rw[B3]<;>omega
def cut(v n:Int):Int:=if n<=1 then 0 else if v.tmod n<0 then v.tmod n+n else v.tmod n
theorem Avf(v n:Int):0<=cut v n/\(cut v n<n∨cut v n=0):=by
 unfold cut;split
 . omega
 . have h1:=Int.tmod_lt_of_pos v (show 0<n by omega);have h2:=Int.lt_tmod_of_pos v (show 0<n by omega);split<;>omega
theorem Ann(v n:Int)(hn:Aop n):BZ prog 28 [.p (.int .i64 v),.p (.int .i64 n)] [] λ h r=>h=[]/\r= .p (.int .i64 (cut v n)):=by
 unfold Aop at hn;refine B1 func28 rfl Amv (by simp[Tryz.f28]) ?_;simp only[go_sem];refine Cx (λ h1=>?_) (λ h1=>?_)
 . simp only[go_sem];simp at h1;simp[cut,h1]
 . simp only[go_sem];simp at h1;refine ⟨by omega,?_⟩;refine Cx (λ h2=>?_) (λ h2=>?_)
   . simp at h2;have h3:IntKind.i64.wrap (v.tmod n+n)=v.tmod n+n:=by
       have h4:=Int.tmod_lt_of_pos v (show 0<n by omega);have h5:=Int.lt_tmod_of_pos v (show 0<n by omega);rw[B3]<;>omega
     simp only[go_sem,h3];simp only[cut,h2,AM,true_and];rw[if_neg (by omega)]
   . simp only[go_sem];simp at h2;simp only[cut,true_and];rw[if_neg (by omega),if_neg (by omega)]
def Me(l:List Int)(at_:Nat)(n:Int):Int:=cut (if at_<l.length then l.getD at_ 0 else ((at_:Int)*7).tmod 11) n
theorem Ajr(l:List Int)(at_:Nat)(n:Int):0<=Me l at_ n/\(Me l at_ n<n∨Me l at_ n=0):=Avf _ _
theorem CO(l:List Int)(at_:Nat)(n:Int)(hn:0<n):∃k:Nat,Me l at_ n=(k:Int)/\(k:Int)<n:=by
 have h:=Ajr l at_ n;exact ⟨(Me l at_ n).toNat,by omega,by omega⟩
theorem CD(n:Int)(h0:0<=n)(h1:n<=1000000):Aop n:=by unfold Aop;omega
theorem F4(l:List UInt8):(D3 l).length=l.length:=by simp[D3]
theorem ZW(l:List UInt8)(i:Nat)(h:i<l.length):(D3 l).getD i []=[.int .u8 (l.getD i 0).toNat]:=by simp[D3,List.getD,h]
def C9(l:List Int)(at_:Nat):List D:=[.p (.sl (BX l)),.p (.int .i64 (at_:Nat))]
theorem ZF:(∀st st1:St,Le st st1=(st1.n=st.n/\UM st.env st1.env/\C8 st.hp st1.hp/\((Ew st1.env++DT st1.hp).all λ id=>(get st1.hp id).isSome)=true/\Gy st1.hp st.hp))/\
   (∀e:List (Nat×D),UM e []=True)/\(∀(e:List (Nat×D)) (t:Nat) (d:D) (r:List (Nat×D)),UM e ((t,d)::r)=(get e t=some d/\UM e r))/\
   (∀h:Hp,C8 h []=True)/\(∀(h:Hp) (id:Nat) (o:AO) (r:Hp),C8 h ((id,o)::r)=(get h id=some o/\C8 h r))/\
   (∀(α:Type) (k:Nat),get ([]:List (Nat×α)) k=none)/\(∀(α:Type) (k':Nat) (x:α) (r:List (Nat×α)) (k:Nat),get ((k',x)::r) k=if k'=k then some x else get r k)/\
   Ew []=[]/\(∀(t:Nat) (d:D) (r:List (Nat×D)),Ew ((t,d)::r)=d.ids++Ew r)/\DT []=[]/\(∀(id:Nat) (o:AO) (r:Hp),DT ((id,o)::r)=o.ids++DT r)/\
   (∀h:Hp,Gy h []=True)/\(∀(h:Hp) (id:Nat) (o:AO) (r:Hp),Gy h ((id,o)::r)=((base<=id->get h id=some o)/\Gy h r))/\
   (∀x,D.ids (.p x)=[])/\(∀cs,D.ids (.agg cs)=Da cs)/\(∀cs,D.ids (.Dg cs)=Da cs)/\(∀es,D.ids (.cl es)=[])/\(∀es,D.ids (.cz es)=[])/\(∀i a b c,D.ids (.ref i a b c)=[i])/\(∀i a,D.ids (.ptr i a)=[i])/\(∀cs,D.ids (.pe cs)=[])/\
   (∀i a b c,D.ids (.ea i a b c)=[i])/\(∀f cs,D.ids (.fn f cs)=Da cs)/\D.ids .np=[]/\(∀i,D.ids (.mv i)=[i])/\(∀i a,D.ids (.Di i a)=[i])/\(∀i a b,D.ids (.LL i a b)=[i])/\(∀i a b c,D.ids (.nr i a b c)=[i])/\D.ids .Qs=[]/\
   Da []=[]/\(∀d r,Da (d::r)=D.ids d++Da r)/\(∀cs t,AO.ids (.box cs t)=Da cs)/\(∀t sz es,AO.ids (.arr t sz es)=[])/\(∀sz es,AO.ids (.LG sz es)=[])/\(∀l q,AO.ids (.iter l q)=[])/\(∀g cs,AO.ids (.Df g cs)=[])/\(∀x,AO.ids (.Fi x)=[])/\(∀l,AO.ids (.mp l)=[])/\(∀t e sz k rows hole,AO.ids (.Dj t e sz k rows hole)=[])/\
   (∀(α:Type) (k:Nat) (x:α),Cw [] k x=[(k,x)])/\(∀(α:Type) (k':Nat) (x':α) (r:List (Nat×α)) (k:Nat) (x:α),Cw ((k',x')::r) k x=if k'=k then (k,x)::r else (k',x')::Cw r k x)/\base=1000000:=by
 refine ⟨?_,?_,?_,?_,?_,?_,?_,?_,?_,?_,?_,?_,?_,?_,?_,?_,?_,?_,?_,?_,?_,?_,?_,?_,?_,?_,?_,?_,?_,?_,?_,?_,?_,?_,?_,?_,?_,?_,?_,?_,?_,?_⟩<;>intros<;>first | rfl | simp only[D.ids,Da,AO.ids]
theorem Cq{P:Program}{s:Bool}{ops rest:List Oper}{k:Kt}{dst:Option Nat}{st:St}{h:Hp}{T:List Nat}{f:FuncId}{ds:List D}{hs:Hp}{S:Prop}{h1:Hp}{d:D}(hc:BZ P f ds hs λ h' r=>h'=h1/\r=d)
   (hk:fresh (dst.getD 0) h h1/\O P s ops rest k (({st with hp:=merge T (dst.getD 0) h h1}:St).put dst (d.Ef (back T (dst.getD 0))))):Cc P s ops rest k dst st h T f ds hs S:=DF hc (by rintro _ _ ⟨rfl,rfl⟩;exact hk)
theorem Gq{P:Program}{l:List Oper}{hR:Hp}{r:List (Nat×Nat)}{k:Kt}{kd:Nat}{dst:Option Nat}{st:St}{h:Hp}{T:List Nat}{f:FuncId}{ds:List D}{hs:Hp}{S:Prop}{h1:Hp}{d:D}(hc:BZ P f ds hs λ h' x=>h'=h1/\x=d)
   (hk:fresh (dst.getD 0) h h1/\Hd kd (merge T (dst.getD 0) h h1) hR/\G P l hR r k (({st with hp:=merge T (dst.getD 0) h h1}:St).put dst (d.Ef (back T (dst.getD 0))))):Gh P l hR r k kd dst st h T f ds hs S:=o5 hc (by rintro _ _ ⟨rfl,rfl⟩;exact hk)
theorem C4(l:List Int)(at_:Nat)(n:Int)(II:at_<1000000000000)(hn:Aop n):
   BZ prog 44 [.ptr 1000000 0,.p (.int .i64 n)] [(1000000,.box (C9 l at_))] λ h r=>h=[(1000000,.box (C9 l (at_+1)))]/\r= .p (.int .i64 (Me l at_ n)):=by
 refine B1 func44 rfl Aml (by simp[Tryz.f44]) ?_;have h7:IntKind.i64.wrap ((at_:Int)*7)=(at_:Int)*7:=by rw[B3]<;>omega
 have h8:IntKind.i64.wrap ((at_:Int)+1)=((at_+1:Nat):Int):=by rw[B3]<;>omega
 unfold C9;simp only[go_sem,h7];refine Dm [(1000000,.box [.p (.sl (BX l)),.p (.int .i64 (at_:Nat))])] mixed (p:=[(0,0),(1,0),(2,0),(3,0),(4,0),(5,0),(6,0),(7,0),(8,0),(9,0)]) (by kernel_rfl) (by simp[C8,get]) ?_;simp only[go_sem,h7,BW];refine Cx (λ h1=>?_) (λ h1=>?_)
 . have Ct:at_<l.length:=by simp at h1;omega
   refine Dm [(1000000,.box [.p (.sl (BX l)),.p (.int .i64 (at_:Nat))])] mixed (p:=[(0,0),(1,0),(2,0),(3,0),(4,0),(5,0),(6,0),(7,0),(8,0),(9,0),(10,0)]) (by kernel_rfl) (by simp[C8,get]) ?_;simp only[go_sem,h8,BW,Ab,Cj l at_ Ct];refine ⟨by omega,DF (Ann _ _ hn) ?_⟩;rintro h' r ⟨rfl,rfl⟩;simp only[go_sem,h8];simp[Me,Ct]
 . simp only[go_sem,h8];refine Cq (Ann _ _ hn) ?_;simp only[go_sem,h8];have:¬at_<l.length:=by simp at h1;omega
   simp[Me,this]
structure Dc where
 word:Int
 line:Int
 names:List (List UInt8)
 B7:List Int
 deriving DecidableEq
def OM:Dc:=⟨0,0,[],[]⟩
def Dc.d(x:Dc):D:= .agg [.p (.int .i64 x.word),.p (.int .i64 x.line),.p (.sl (CJ x.names)),.p (.sl (BX x.B7))]
structure Ln where
 num:Int
 fs:List (List UInt8)
 deriving DecidableEq
def ln0:Ln:=⟨0,[]⟩
def GA(l:List Ln):List (List Pd):=l.map λ x=>[.int .i64 x.num,.sl (CJ x.fs)]
theorem DB(l:List Ln):(GA l).length=l.length:=by simp[GA]
theorem Ug(l:List Ln)(i:Nat)(h:i<l.length):(GA l).getD i []=[.int .i64 (l.getD i ln0).num,.sl (CJ (l.getD i ln0).fs)]:=by simp[GA,List.getD,h]
theorem Nl(l:List Ln)(x:Ln):GA (l++[x])=GA l++[[.int .i64 x.num,.sl (CJ x.fs)]]:=by simp[GA]
theorem Wq(l:List Ln)(n:Nat)(h:l.length<=n):(GA l).take n=GA l:=List.take_of_length_le (by simpa [GA] using h)
def EV(l:List Dc):List (List Pd):=l.map λ x=>[.int .i64 x.word,.int .i64 x.line,.sl (CJ x.names),.sl (BX x.B7)]
theorem FD(l:List Dc):(EV l).length=l.length:=by simp[EV]
theorem Ang(l:List Dc)(i:Nat)(h:i<l.length):(EV l).getD i []=[.int .i64 (l.getD i OM).word,.int .i64 (l.getD i OM).line,.sl (CJ (l.getD i OM).names),.sl (BX (l.getD i OM).B7)]:=by simp[EV,List.getD,h]
theorem Rl(l:List Dc)(x:Dc):EV (l++[x])=EV l++[[.int .i64 x.word,.int .i64 x.line,.sl (CJ x.names),.sl (BX x.B7)]]:=by simp[EV]
theorem Ah9(l:List Dc)(n:Nat)(h:l.length<=n):(EV l).take n=EV l:=List.take_of_length_le (by simpa [EV] using h)
def GU(c:Int):Bool:=decide (97<=c/\c<=122)||decide (65<=c/\c<=90)
theorem Tv(c:Int):BZ prog 82 [.p (.int .u8 c)] [] λ h r=>h=[]/\r= .p (.bool (GU c)):=by
 refine B1 func82 rfl Alz (by simp[Tryz.f82]) ?_;by_cases h1:97<=c<;>by_cases h2:c<=122<;>by_cases h3:65<=c<;>by_cases h4:c<=90<;>(try omega)<;>
 . simp only[go_sem,h1,h2,h3,h4];simp[GU,h1,h2,h3,h4]
theorem Tu(c:Int):BZ prog 120 [.p (.int .u8 c)] [] λ h r=>h=[]/\r= .p (.bool (GU c)):=by
 refine B1 func120 rfl Agg (by simp[Tryz.f120]) ?_;by_cases h1:97<=c<;>by_cases h2:c<=122<;>by_cases h3:65<=c<;>by_cases h4:c<=90<;>(try omega)<;>
 . simp only[go_sem,h1,h2,h3,h4];simp[GU,h1,h2,h3,h4]
def r8(c:Int):Bool:=GU c||decide (48<=c/\c<=57)||decide (c=45)||decide (c=95)
def CL(l:List UInt8):Bool:=match l with
 | []=>false
 | b::_=>decide (l.length<=12)&&GU b.toNat&&l.all λ c=>r8 c.toNat
theorem Fb(c:Int):r8 c=(GU c||(decide (48<=c)&&decide (c<=57))||decide (c=45)||decide (c=95)):=by simp[r8]
theorem Pp(l:List UInt8):BZ prog 42 [.p (.str l)] [] λ h r=>h=[]/\r= .p (.bool (CL l)):=by
 refine B1 func42 rfl Amn (by simp[Tryz.f42]) ?_;cases l with
 | nil=>
   simp only[go_sem];rfl
 | cons b l=>
   by_cases hL:(12:Int)<((l.length+1:Nat):Int)
   . simp only[go_sem,hL];have:¬l.length+1<=12:=by omega
     simp[CL,this]
   . simp only[go_sem,hL,A3];refine ⟨by omega,DF (Tv _) ?_⟩;rintro h' r ⟨rfl,rfl⟩;simp only[go_sem,hL];cases hb:GU b.toNat
     . simp only[go_sem];simp[CL,hb]
     . simp only[go_sem];refine o7 rfl ti9 Apa ti5 rfl ?_;simp only[go_sem,F4];refine B5 (λ i=>⟨[(19,.p (.sl (D3 (b::l)))),(20,.p (.int .i64 ((l.length+1:Nat):Int))),(21,.p (.int .i64 (i:Nat)))],[],45⟩) (λ i=>i<=l.length+1/\∀j,j<i->r8 ((b::l).getD j 0).toNat=true) (λ i=>l.length+1 - i) 0 ⟨AE _,by simp⟩
         (Wk.forget (by simp[Le,UM,C8,get,Ew,DT,Gy,D.ids])) ?_
       rintro i n ⟨hi,he⟩ ih;simp only[go_sem,F4];refine Cx (λ h2=>?_) (λ h2=>?_)
       . have Ct:i<(b::l).length:=by simp at h2 ⊢;omega
         simp only[go_sem,F4,Ab,ZW (b::l) i Ct];have hw:=Cg i (by omega);generalize hcc:(((b::l).getD i 0).toNat:Int)=c;refine ⟨by simp at Ct;omega,DF (Tv _) ?_⟩;rintro h' r ⟨rfl,rfl⟩;have LV:r8 c=false->CL (b::l)=false:=by
           intro hf;have:((b::l).all λ c=>r8 c.toNat)=false:=by
             rw[Bool.eq_false_iff];intro ht;have:=AB.1 ht ((b::l).getD i 0) (by simp only[List.getD,Ax Ct,AY];exact AS Ct);rw[hcc,hf] at this;cases this
           simp only[CL,this,Bool.and_false]
         have TL:r8 c=true->∀j,j<i+1->r8 ((b::l).getD j 0).toNat=true:=by
           intro ht j hj;rcases AG.1 hj with hj | rfl
           . exact he j hj
           . rw[hcc];exact ht
         have hle:i+1<=l.length+1:=by simp only[Ar] at Ct;omega
         cases hlc:GU c
         . by_cases h48:c<48<;>by_cases h57:57<c<;>by_cases h45:c=45<;>by_cases h95:c=95<;>(try omega)<;>
           . simp only[go_sem,hlc,h48,h57,h45,h95,hw];first
               | exact ⟨trivial,by rw[LV (by simp[Fb,hlc];omega)]⟩
               | exact ⟨rfl,by rw[LV (by simp[Fb,hlc];omega)]⟩
               | (rw[LV (by simp[Fb,hlc];omega)])
               | exact ih (i+1) _ ⟨hle,TL (by simp[Fb,hlc];omega)⟩ (by omega) (Wk.forget (by simp[Le,UM,C8,get,Ew,DT,Gy,D.ids]))
         . simp only[go_sem,hlc,hw];exact ih (i+1) _ ⟨hle,TL (by simp[Fb,hlc])⟩ (by omega) (Wk.forget (by simp[Le,UM,C8,get,Ew,DT,Gy,D.ids]))
       . simp only[go_sem];have EP:i=l.length+1:=by simp at h2;omega
         have DK:((b::l).all λ c=>r8 c.toNat)=true:=by
           refine AB.2 λ x hx=>?_;obtain ⟨j,hj,rfl⟩:=AA.1 hx;have:=he j (by simp at hj;omega)
           simpa only[List.getD,List.getElem?_eq_getElem hj,Option.getD_some] using this
         have Ve:l.length+1<=12:=by omega
         simp only[CL,DK,hb,Ar,Ve,decide_true,Bool.and_self,and_self]
theorem Ajv(l:List UInt8):BZ prog 73 [.p (.str l)] [] λ h r=>h=[]/\r= .p (.bool (CL l)):=by
 refine B1 func73 rfl Am1 (by simp[Tryz.f73]) ?_;cases l with
 | nil=>
   simp only[go_sem];rfl
 | cons b l=>
   by_cases hL:(12:Int)<((l.length+1:Nat):Int)
   . simp only[go_sem,hL];have:¬l.length+1<=12:=by omega
     simp[CL,this]
   . simp only[go_sem,hL,A3];refine ⟨by omega,DF (Tu _) ?_⟩;rintro h' r ⟨rfl,rfl⟩;simp only[go_sem,hL];cases hb:GU b.toNat
     . simp only[go_sem];simp[CL,hb]
     . simp only[go_sem];refine B5 (λ i=>⟨[(0,.p (.str (b::l))),(3,.p (.int .i64 (i:Nat)))],[],46⟩) (λ i=>i<=l.length+1/\∀j,j<i->r8 ((b::l).getD j 0).toNat=true) (λ i=>l.length+1 - i) 0 ⟨AE _,by simp⟩
         (Wk.forget (by simp[Le,UM,C8,get,Ew,DT,Gy,D.ids])) ?_
       rintro i n ⟨hi,he⟩ ih;simp only[go_sem];refine Cx (λ h2=>?_) (λ h2=>?_)
       . have Ct:i<(b::l).length:=by simp at h2 ⊢;omega
         simp only[go_sem,Ab];have hw:=Cg i (by omega);generalize hcc:(((b::l).getD i 0).toNat:Int)=c;refine ⟨by simp at Ct;omega,DF (Tu _) ?_⟩;rintro h' r ⟨rfl,rfl⟩;have LV:r8 c=false->CL (b::l)=false:=by
           intro hf;have:((b::l).all λ c=>r8 c.toNat)=false:=by
             rw[Bool.eq_false_iff];intro ht;have:=AB.1 ht ((b::l).getD i 0) (by simp only[List.getD,Ax Ct,AY];exact AS Ct);rw[hcc,hf] at this;cases this
           simp only[CL,this,Bool.and_false]
         have TL:r8 c=true->∀j,j<i+1->r8 ((b::l).getD j 0).toNat=true:=by
           intro ht j hj;rcases AG.1 hj with hj | rfl
           . exact he j hj
           . rw[hcc];exact ht
         have hle:i+1<=l.length+1:=by simp only[Ar] at Ct;omega
         cases hlc:GU c
         . by_cases h48:c<48<;>by_cases h57:57<c<;>by_cases h45:c=45<;>by_cases h95:c=95<;>(try omega)<;>
           . simp only[go_sem,hlc,h48,h57,h45,h95,hw];first
               | exact ⟨trivial,by rw[LV (by simp[Fb,hlc];omega)]⟩
               | exact ⟨rfl,by rw[LV (by simp[Fb,hlc];omega)]⟩
               | (rw[LV (by simp[Fb,hlc];omega)])
               | exact ih (i+1) _ ⟨hle,TL (by simp[Fb,hlc];omega)⟩ (by omega) (Wk.forget (by simp[Le,UM,C8,get,Ew,DT,Gy,D.ids]))
         . simp only[go_sem,hlc,hw];exact ih (i+1) _ ⟨hle,TL (by simp[Fb,hlc])⟩ (by omega) (Wk.forget (by simp[Le,UM,C8,get,Ew,DT,Gy,D.ids]))
       . simp only[go_sem];have EP:i=l.length+1:=by simp at h2;omega
         have DK:((b::l).all λ c=>r8 c.toNat)=true:=by
           refine AB.2 λ x hx=>?_;obtain ⟨j,hj,rfl⟩:=AA.1 hx;have:=he j (by simp at hj;omega)
           simpa only[List.getD,List.getElem?_eq_getElem hj,Option.getD_some] using this
         have Ve:l.length+1<=12:=by omega
         simp only[CL,DK,hb,Ar,Ve,decide_true,Bool.and_self,and_self]
def LO(s p:List UInt8):Bool:=decide (p.length<=s.length)&&decide (s.take p.length=p)
theorem XE(s p:List UInt8):BZ prog 164 [.p (.str s),.p (.str p)] [] λ h r=>h=[]/\r= .p (.bool (LO s p)):=by
 refine B1 func164 rfl Aft (by simp[Tryz.f164]) ?_;by_cases h1:(p.length:Int)<=s.length
 . simp only[go_sem,h1,Ab];refine ⟨by omega,?_⟩;have h2:p.length<=s.length:=by omega
   simp[LO,h2]
 . simp only[go_sem,h1];have h2:¬p.length<=s.length:=by omega
   simp[LO,h2]
theorem Vj(s p:List UInt8):BZ prog 170 [.p (.str s),.p (.str p)] [] λ h r=>h=[]/\r= .Dg [.p (.str (if LO s p then s.drop p.length else s)),.p (.bool (LO s p))]:=by
 refine B1 func170 rfl Afr (by simp[Tryz.f170]) ?_;simp only[go_sem];refine Cq (XE s p) ?_;simp only[go_sem];cases hp:LO s p
 . simp only[go_sem];refine C0 ?_;simp only[go_sem];try simp
 . simp only[go_sem,Ab];have h1:p.length<=s.length:=by
     simp only[LO,Ao,Aq] at hp;exact hp.1
   refine ⟨by omega,C0 ?_⟩;simp only[go_sem];try simp
theorem XR(s p:List UInt8):BZ prog 140 [.p (.str s),.p (.str p)] [] λ h r=>h=[]/\r= .Dg [.p (.str (if LO s p then s.drop p.length else s)),.p (.bool (LO s p))]:=by
 refine B1 func140 rfl Ag5 (by simp[Tryz.f140]) ?_;simp only[go_sem];refine Cq (Vj s p) ?_;simp only[go_sem];refine C0 ?_;simp only[go_sem]
def IM(l:List UInt8):Int:=l.foldl (λ n c=>10*n+((c.toNat:Int) - 48)) 0
def Vi(c:Int):Bool:=decide (48<=c)&&decide (c<=57)
def P6(l:List UInt8):Bool:=l.all λ c=>Vi c.toNat
def numOf(neg:Bool)(l:List UInt8):Int×Bool:=
 match l with
 | []=>(0,false)
 | b::r=>if 4<r.length+1∨((b.toNat:Int)=48/\(neg=true∨1<r.length+1)) then (0,false)
   else if P6 (b::r) then (if neg then 0 - IM (b::r) else IM (b::r),true) else (0,false)
def Pl(s:List UInt8):Int×Bool:=if LO s [45] then numOf true (s.drop 1) else numOf false s
theorem Adc(l:List UInt8)(i:Nat)(h:i<l.length):IM (l.take (i+1))=10*IM (l.take i)+(((l.getD i 0).toNat:Int) - 48):=by
 unfold IM;rw[List.take_succ_eq_append_getElem h,List.foldl_append];simp[List.getD,h]
theorem p10(i:Nat)(h:i<=4):(10:Int) ^ i<=10000:=by
 rcases i with _ | _ | _ | _ | _ | i<;>simp at*<;>omega
theorem Aa4(s:List UInt8):BZ prog 108 [.p (.str s)] [] λ h r=>h=[]/\r= .Dg [.p (.int .i64 (Pl s).1),.p (.bool (Pl s).2)]:=by
 refine B1 func108 rfl Ags (by simp[Tryz.f108]) ?_;simp only[go_sem];refine Cq (XR s [45]) ?_;simp only[go_sem];have key:Pl s=numOf (LO s [45]) (if LO s [45]=true then List.drop 1 s else s):=by
   unfold Pl;cases LO s [45]<;>rfl
 rw[key];clear key;generalize LO s [45]=neg;generalize (if neg=true then List.drop 1 s else s)=l;cases l with
 | nil=>
   simp only[go_sem];refine C0 ?_;simp only[go_sem];try simp[numOf]
 | cons b l=>
   by_cases hL:(4:Int)<((l.length+1:Nat):Int)
   . simp only[go_sem,hL];refine C0 ?_;simp only[go_sem];have:4<l.length+1:=by omega
     try simp[numOf,this]
   . have hL':¬4<l.length+1:=by omega
     have hlen:(b::l).length<=4:=by simp only[Ar];omega
     have bad:∀c:Int,(∃i,i<(b::l).length/\(((b::l).getD i 0).toNat:Int)=c)->Vi c=false->P6 (b::l)=false:=by
       rintro c ⟨i,hi,hc⟩ hf;rw[Bool.eq_false_iff];intro ht;have:=AB.1 ht ((b::l).getD i 0) (by simp only[List.getD,Ax hi,AY];exact AS hi);simp only[hc,hf] at this;cases this
     by_cases JH:(b.toNat:Int)=48/\(neg=true∨1<l.length+1)
     . obtain ⟨h48,hn⟩:=JH;have Sk:numOf neg (b::l)=(0,false):=by simp only[numOf,h48,hn,and_self,or_true,AM]
       cases neg
       . have h1:(1:Int)<((l.length+1:Nat):Int):=by simp at hn;omega
         simp only[go_sem,hL,A3,h48,h1];refine ⟨by omega,C0 ?_⟩;simp only[go_sem,Sk]
       . simp only[go_sem,hL,A3,h48];refine ⟨by omega,C0 ?_⟩;simp only[go_sem,Sk]
     . have Sk:numOf neg (b::l)=if P6 (b::l) then (if neg then 0 - IM (b::l) else IM (b::l),true) else (0,false):=by
         simp only[numOf,hL',JH,or_self,A9]
       have Al1:((b.toNat:Int)≠48)∨((b.toNat:Int)=48/\neg=false/\¬(1:Int)<((l.length+1:Nat):Int)):=by
         by_cases h:(b.toNat:Int)=48
         . right;refine ⟨h,?_,?_⟩
           . cases neg
             . rfl
             . exact (JH ⟨h,.inl rfl⟩).elim
           . intro h1;exact JH ⟨h,.inr (by omega)⟩
         . exact .inl h
       rcases Al1 with h48 | ⟨h48,hng,h1⟩
       all_goals
         have Akp:=Sk;first | rw[hng] at Akp | skip
         first
           | simp only[go_sem,hL,A3,h48,h1,hng]
           | simp only[go_sem,hL,A3,h48]
         refine ⟨by omega,o7 rfl ti9 Apa ti5 rfl ?_⟩;simp only[go_sem,F4];refine B5 (λ i=>⟨[(35,.p (.sl (D3 (b::l)))),(36,.p (.int .i64 ((l.length+1:Nat):Int))),(37,.p (.int .i64 (i:Nat))),(6,.p (.int .i64 (IM ((b::l).take i)))),(5,.p (.bool neg))],[],58⟩) (λ i=>i<=l.length+1/\0<=IM ((b::l).take i)/\IM ((b::l).take i)<10 ^ i/\∀j,j<i->Vi ((b::l).getD j 0).toNat=true) (λ i=>l.length+1 - i) 0 ⟨AE _,by simp[IM],by simp[IM],by simp⟩
           (Wk.forget (by first | (simp[Le,UM,C8,get,Ew,DT,Gy,D.ids,IM];done) | simp[Le,UM,C8,get,Ew,DT,Gy,D.ids,IM,hng])) ?_
         rintro i n ⟨hi,Ov,hv1,he⟩ ih;simp only[go_sem,F4];refine Cx (λ h2=>?_) (λ h2=>?_)
         . have Ct:i<(b::l).length:=by simp at h2 ⊢;omega
           simp only[go_sem,F4,Ab,ZW (b::l) i Ct];have hw:=Cg i (by omega);have Aso:=Adc (b::l) i Ct;generalize hcc:(((b::l).getD i 0).toNat:Int)=c at Aso;refine ⟨by simp only[Ar] at Ct;omega,?_⟩;have hle:i+1<=l.length+1:=by simp only[Ar] at Ct;omega
           have hp:(10:Int) ^ i<=10000:=p10 i (by omega);have La:(10:Int) ^ (i+1)=10*10 ^ i:=by rw[Int.pow_succ];omega
           by_cases V7:c<48
           . simp only[go_sem,V7];refine C0 ?_;simp only[go_sem,Akp,bad c ⟨i,Ct,hcc⟩ (by simp[Vi];omega)];try simp
           . by_cases Jt:57<c
             . simp only[go_sem,V7,Jt];refine C0 ?_;simp only[go_sem,Akp,bad c ⟨i,Ct,hcc⟩ (by simp[Vi];omega)];try simp
             . have w1:IntKind.i64.wrap (10*IM ((b::l).take i))=10*IM ((b::l).take i):=by rw[B3]<;>omega
               have w2:IntKind.u8.wrap (c - 48)=c - 48:=by rw[IntKind.wrap_u8];omega
               have w3:IntKind.i64.wrap (c - 48)=c - 48:=by rw[B3]<;>omega
               have w4:IntKind.i64.wrap (10*IM ((b::l).take i)+(c - 48))=IM ((b::l).take (i+1)):=by rw[Aso,B3]<;>omega
               simp only[go_sem,V7,Jt,w1,w2,w3,w4,hw];refine ih (i+1) _ ⟨hle,by omega,by omega,λ j hj=>?_⟩ (by omega) (Wk.forget (by simp[Le,UM,C8,get,Ew,DT,Gy,D.ids]));rcases AG.1 hj with hj | rfl
               . exact he j hj
               . rw[hcc];simp[Vi];omega
         . simp only[go_sem];have EP:i=(b::l).length:=by simp at h2 ⊢;omega
           have DK:P6 (b::l)=true:=by
             refine AB.2 λ x hx=>?_;obtain ⟨j,hj,rfl⟩:=AA.1 hx;have:=he j (by omega)
             simpa only[List.getD,List.getElem?_eq_getElem hj,Option.getD_some] using this
           have hp:(10:Int) ^ i<=10000:=p10 i (by omega);rw[EP,At] at Ov hv1;rw[EP,At];have w5:IntKind.i64.wrap (0 - IM (b::l))=0 - IM (b::l):=by rw[<-EP] at hv1;rw[B3]<;>omega
           refine Cx (λ h3=>?_) (λ h3=>?_)
           . simp only[go_sem,w5];refine C0 ?_;have hr3:=Sk;rw[h3] at hr3;first | (simp only[go_sem,hr3,DK,h3];done) | (simp only[go_sem,hr3,DK,h3];simp;done) | (simp[hng] at h3;done)
           . simp only[go_sem];refine C0 ?_;have hr3:=Sk;rw[h3] at hr3;simp only[go_sem,hr3,DK,h3];try simp
structure ER where
 name:List UInt8
 x:Int
 y:Int
 deriving DecidableEq
structure C3 where
 name:List UInt8
 CA:Bool
 HW:Int
 out:Int
 Co:Int
 base:Int
 deriving DecidableEq
structure Nt where
 blocks:List ER
 next:List (List Int)
 spurs:List C3
 B0:List Int
 cq:Int
 ca:Int
 cd:Int
 cp:Int
 deriving DecidableEq
def DG:ER:=⟨[],0,0⟩
def Cm:C3:=⟨[],false,0,0,0,0⟩
def C2(l:List ER):List (List Pd):=l.map λ b=>[.str b.name,.int .i64 b.x,.int .i64 b.y]
def Cr(l:List (List Int)):List (List Pd):=l.map λ r=>[.sl (BX r)]
def C1(l:List C3):List (List Pd):=l.map λ s=>[.str s.name,.bool s.CA,.int .i64 s.HW,.int .i64 s.out,.int .i64 s.Co,.int .i64 s.base]
theorem Cf(l:List ER):(C2 l).length=l.length:=by simp[C2]
theorem B8(l:List (List Int)):(Cr l).length=l.length:=by simp[Cr]
theorem Cb(l:List C3):(C1 l).length=l.length:=by simp[C1]
theorem ZT(l:List ER)(i:Nat)(h:i<l.length):(C2 l).getD i []=[.str (l.getD i DG).name,.int .i64 (l.getD i DG).x,.int .i64 (l.getD i DG).y]:=by simp[C2,List.getD,h]
theorem GP(l:List (List Int))(i:Nat)(h:i<l.length):(Cr l).getD i []=[.sl (BX (l.getD i []))]:=by simp[Cr,List.getD,h]
theorem Fa(l:List C3)(i:Nat)(h:i<l.length):(C1 l).getD i []=[.str (l.getD i Cm).name,.bool (l.getD i Cm).CA,.int .i64 (l.getD i Cm).HW,.int .i64 (l.getD i Cm).out,.int .i64 (l.getD i Cm).Co,.int .i64 (l.getD i Cm).base]:=by simp[C1,List.getD,h]
theorem Ws(l:List ER)(b:ER):C2 (l++[b])=C2 l++[[.str b.name,.int .i64 b.x,.int .i64 b.y]]:=by simp[C2]
theorem Nk(l:List C3)(s:C3):C1 (l++[s])=C1 l++[[.str s.name,.bool s.CA,.int .i64 s.HW,.int .i64 s.out,.int .i64 s.Co,.int .i64 s.base]]:=by simp[C1]
theorem Wr(l:List ER)(n:Nat)(h:l.length<=n):(C2 l).take n=C2 l:=List.take_of_length_le (by simpa [C2] using h)
theorem Ah7(l:List (List Int))(n:Nat)(h:l.length<=n):(Cr l).take n=Cr l:=List.take_of_length_le (by simpa [Cr] using h)
theorem Wp(l:List C3)(n:Nat)(h:l.length<=n):(C1 l).take n=C1 l:=List.take_of_length_le (by simpa [C1] using h)
theorem MH(l:List (List Int))(i:Nat)(r:List Int):Cr (l.set i r)=(Cr l).set i [.sl (BX r)]:=by simp[Cr,BD]
def CT(l:List Bool):List (List Pd):=l.map λ b=>[.bool b]
def Nt.cs(n:Nt):List D:=[.p (.sl (C2 n.blocks)),.p (.sl (Cr n.next)),.p (.sl (C1 n.spurs)),.p (.sl (BX n.B0)),.p (.int .i64 n.cq),.p (.int .i64 n.ca),.p (.int .i64 n.cd),.p (.int .i64 n.cp)]
def Kv:List Int->Int->List Int
 | [],x=>[x]
 | y::r,x=>if x<y then x::y::r else y::Kv r x
theorem Akf(l:List Int)(x:Int):(Kv l x).length=l.length+1:=by
 induction l with
 | nil=>rfl
 | cons y r ih=>unfold Kv;split<;>simp[ih]
theorem TD(l:List Int)(x z:Int):z∈Kv l x↔z=x∨z∈l:=by
 induction l with
 | nil=>simp[Kv]
 | cons y r ih=>
   unfold Kv;split
   . simp
   . simp only[AF,ih];constructor<;>(rintro (h | h | h)<;>simp[h])
theorem Akg(l:List Int)(x:Int)(h:l.Pairwise (· < ·))(hx:x∉l):(Kv l x).Pairwise (· < ·):=by
 induction l with
 | nil=>simp[Kv]
 | cons y r ih=>
   rw[BL] at h;unfold Kv;split
   . rename_i h1;rw[BL];refine ⟨λ z hz=>?_,BL.2 h⟩;rcases AF.1 hz with rfl | hz
     . exact h1
     . have:=h.1 z hz;omega
   . rename_i h1;have Dl:x≠y:=λ e=>hx (by simp[e]);rw[BL];refine ⟨λ z hz=>?_,ih h.2 (λ hm=>hx (List.mem_cons_of_mem _ hm))⟩;rcases (TD r x z).1 hz with rfl | hz
     . omega
     . exact h.1 z hz
theorem getD_eq{α:Type}{l:List α}{k:Nat}{x:α}(h:k<l.length):l.getD k x=l[k]:=by simp[List.getD,h]
theorem GO(l:List Bool)(i:Nat)(h:i<l.length):(CT l).getD i []=[.bool (l.getD i false)]:=by simp[CT,List.getD,h]
theorem CB{α:Type}(l:List α)(i:Nat)(x:α)(h:i<l.length):l.take (i+1)=l.take i++[l.getD i x]:=by
 rw[BQ,List.getD,Ax h];rfl
theorem Li(l:List Int)(i:Nat):(BX l).take i=BX (l.take i):=by simp[BX,Bz]
theorem Cu{n:Nat}(h:n<10000000):IntKind.i64.wrap ((n:Int)+1)=((n+1:Nat):Int):=Cg n (by omega)
theorem Vg{α:Type}{l:List α}{k:Nat}{x:α}(h:k<l.length):l.getD k x=l[k]:=by simp[List.getD,h]
theorem E6{α:Type}(l:List α)(v:Nat)(x d:α)(w:Nat)(hv:v<l.length):(l.set v x).getD w d=if w=v then x else l.getD w d:=by
 simp only[List.getD,BR];by_cases h:w=v
 . subst h;simp[hv]
 . rw[if_neg (Bm h),if_neg h]
theorem getD_map'{α β:Type}(f:α->β)(l:List α)(i:Nat)(x:α)(y:β)(h:i<l.length):(l.map f).getD i y=f (l.getD i x):=by simp[List.getD,h]
theorem Ajo:∀(a b:List Int),a.Nodup->(∀x∈a,x∈b)->a.length<=b.length
 | [],_,_,_=>by simp
 | x::a,b,hn,hs=>by
   rw[List.nodup_cons] at hn;have hx:=hs x (by simp);have h1:=Ajo a (b.erase x) hn.2 (λ y hy=>(List.mem_erase_of_ne (λ e=>hn.1 (by rw[<-e];exact hy))).2 (hs y (by simp[hy])));rw[List.length_erase_of_mem hx] at h1;have:=List.length_pos_of_mem hx;simp only[Ar];omega
theorem Aob(n:Int)(h0:0<=n)(h1:n<4294967296):((BitVec.ofInt 64 n&&& BitVec.ofInt 64 4294967295).toNat:Int)=n:=by
 obtain ⟨m,rfl⟩:=Int.eq_ofNat_of_zero_le h0;have h2:m<4294967296:=by omega
 rw[BitVec.toNat_and];have e1:(BitVec.ofInt 64 (m:Int)).toNat=m:=by
   simp only[BitVec.toNat_ofInt];omega
 have e2:(BitVec.ofInt 64 4294967295).toNat=2 ^ 32 - 1:=by decide
 rw[e1,e2,Nat.and_two_pow_sub_one_eq_mod];omega
theorem VA(n:Int)(h0:0<=n)(h1:n<4294967296):n.fdiv 4294967296=0:=by
 rw[Int.fdiv_eq_ediv_of_nonneg _ (by omega)];omega
theorem Vp(n:Int)(h0:0<=n)(h1:n<4294967296):IntKind.u64.wrap n=n:=by
 simp[IntKind.wrap,IntKind.bits,IntKind.signed];omega
theorem Ajw(n:Int)(h0:0<=n)(h1:n<4294967296):
   BZ prog 163 [.p (.int .u64 1),.p (.int .u64 n)] [] λ h d=>h=[]/\d= .Dg [.p (.int .u64 0),.p (.int .u64 n)]:=by
 refine B1 func163 rfl Afu (by simp[Tryz.f163]) ?_;simp only[go_sem,h0,h1];all_goals (try refine BY ?_)
 have pw:(2:Int) ^ min 32 64=4294967296:=by decide
 have w0:=Vp 0 (by omega) (by omega);have w1:=Vp 1 (by omega) (by omega);have a1:=Aob 1 (by omega) (by omega);have a0:=Aob 0 (by omega) (by omega);have an:=Aob n h0 h1
 repeat erw [an]
 repeat erw [a1]
 simp only[pw,VA n h0 h1,VA 1 (by omega) (by omega),VA 0 (by omega) (by omega),Vp n h0 h1,w0,w1,Int.zero_mul,Int.mul_zero,Int.zero_add,Int.add_zero,Int.one_mul]
 repeat erw [a0]
 simp only[pw,VA n h0 h1,VA 1 (by omega) (by omega),VA 0 (by omega) (by omega),Vp n h0 h1,w0,w1,Int.zero_mul,Int.mul_zero,Int.zero_add,Int.add_zero,Int.one_mul];simp only[go_sem]
theorem Au3(n:Int)(h0:0<=n)(h1:n<4294967296):
   BZ prog 133 [.p (.int .u64 1),.p (.int .u64 n)] [] λ h d=>h=[]/\d= .Dg [.p (.int .u64 0),.p (.int .u64 n)]:=by
 refine B1 func133 rfl Ag8 (by simp[Tryz.f133]) ?_;simp only[go_sem,h0,h1];refine Cq ((Ajw n h0 h1)) ?_;simp only[go_sem];all_goals (try refine BY ?_)
 all_goals (try simp only[go_sem])
structure Cy where
 bl:List ER
 nx:List (List Int)
 sp:List C3
 cq:Int
 ca:Int
 cd:Int
 cp:Int
 mb:List (List UInt8×Int)
 ms:List (List UInt8×Int)
 ba:List Int
 sl:Int
 pl:List (Int×Int)
 cf:Bool
def encR(l:List (List Int)):List (List (List Pd)):=l.map BX
def IC(l:List (Int×Int)):List (List Pd):=l.map λ p=>[.int .i64 p.1,.int .i64 p.2]
theorem Ir(l:List (List Int)):(encR l).length=l.length:=by simp[encR]
theorem EN(l:List (Int×Int)):(IC l).length=l.length:=by simp[IC]
theorem MG(l:List (List Int))(i:Nat):(encR l).getD i []=BX (l.getD i []):=by
 unfold encR;by_cases h:i<l.length
 . simp[List.getD,h]
 . simp[List.getD,h,BX]
theorem Ah3(l:List (List Int)):encR l++[[]]=encR (l++[[]]):=by simp[encR,BX]
theorem ZS(l:List (List Int))(i:Nat)(r:List Int):encR (l.set i r)=(encR l).set i (BX r):=by simp[encR,BD]
theorem Ah4(l:List (Int×Int))(p:Int×Int):IC (l++[p])=IC l++[[.int .i64 p.1,.int .i64 p.2]]:=by simp[IC]
def Cy.box(b:Cy):List D:=[.ref 1000001 0 b.bl.length b.bl.length,.Di 1000002 b.nx.length,.ref 1000003 0 b.sp.length b.sp.length,.cl [],.p (.int .i64 b.cq),.p (.int .i64 b.ca),.p (.int .i64 b.cd),.p (.int .i64 b.cp),
 .mv 1000004,.mv 1000005,.ref 1000006 0 b.ba.length b.ba.length,.p (.int .i64 b.sl),.ref 1000007 0 b.pl.length b.pl.length,.p (.bool b.cf)]
def Cy.h(b:Cy)(k:Nat):Hp:=[(1000000,.box b.box),(1000001,.arr 76 3 (C2 b.bl)),(1000002,.Dj 22 3 1 k (encR b.nx) none),(1000003,.arr 68 6 (C1 b.sp)),
 (1000004,.mp (Kb b.mb)),(1000005,.mp (Kb b.ms)),(1000006,.arr 3 1 (BX b.ba)),(1000007,.arr 120 2 (IC b.pl))]
theorem Cy.FL(b:Cy)(k:Nat):b.h k=[(1000000,.box [.ref 1000001 0 b.bl.length b.bl.length,.Di 1000002 b.nx.length,.ref 1000003 0 b.sp.length b.sp.length,.cl [],.p (.int .i64 b.cq),.p (.int .i64 b.ca),.p (.int .i64 b.cd),.p (.int .i64 b.cp),
 .mv 1000004,.mv 1000005,.ref 1000006 0 b.ba.length b.ba.length,.p (.int .i64 b.sl),.ref 1000007 0 b.pl.length b.pl.length,.p (.bool b.cf)]),(1000001,.arr 76 3 (C2 b.bl)),(1000002,.Dj 22 3 1 k (encR b.nx) none),(1000003,.arr 68 6 (C1 b.sp)),
 (1000004,.mp (Kb b.mb)),(1000005,.mp (Kb b.ms)),(1000006,.arr 3 1 (BX b.ba)),(1000007,.arr 120 2 (IC b.pl))]:=rfl
def Cy.Iw(b:Cy)(x:List UInt8):Bool:=(DN b.mb x).isSome||(DN b.ms x).isSome
theorem Ik(b:Cy)(k:Nat)(x:List UInt8):BZ prog 141 [.ptr 1000000 0,.p (.str x)] (b.h k) λ h r=>h=b.h k/\r= .p (.bool (b.Iw x)):=by
 refine B1 func141 rfl Ag4 (by simp[Tryz.f141]) ?_;rw[Cy.FL b k];simp only[go_sem,KK.fit,DJ,DY,Aab];cases c:(DN b.mb x).isSome
 . simp only[go_sem,c];try simp[Cy.Iw,c]
 . simp only[go_sem,c];try simp[Cy.Iw,c]
def Cy.Ez(b:Cy)(d:Dc):Int×Cy:=
 if b.Iw (d.names.getD 0 [])=true then (8,b) else if b.bl.length=24 then (14,b) else
   (0,{b with mb:=HS b.mb (d.names.getD 0 []) b.bl.length,bl:=b.bl++[⟨d.names.getD 0 [],d.B7.getD 0 0,d.B7.getD 1 0⟩],nx:=b.nx++[[]]})
theorem Ao6(b:Cy)(k:Nat)(d:Dc)(h1:1<=d.names.length)(h2:2<=d.B7.length)(hb:b.bl.length<=24)(hn:b.nx.length<=24):
   BZ prog 109 [.ptr 1000000 0,d.d] (b.h k) λ h r=>∃k',h=(b.Ez d).2.h k'/\r= .p (.int .i64 (b.Ez d).1):=by
 have e1:=D2 d.names 0 (by omega);have e2:=Cj d.B7 0 (by omega);have e3:=Cj d.B7 1 (by omega);refine B1 func109 rfl Agr (by simp[Tryz.f109]) ?_;rw[Cy.FL b k];unfold Dc.d;simp only[go_sem,B6,e1];refine ⟨by omega,?_⟩;refine Cq (Ik b k _) ?_;cases c:b.Iw (d.names.getD 0 []);rotate_left
 . simp only[go_sem,Cy.FL b k,c];have hv:b.Ez d=(8,b):=by unfold Cy.Ez;rw[if_pos c]
   rw[hv];exact ⟨k,rfl,rfl⟩
 cases c2:decide ((b.bl.length:Int)=24);rotate_left
 . simp only[go_sem,Cy.FL b k,c,c2,Cf];have c3:b.bl.length=24:=by have:=Ad c2;omega
   have hv:b.Ez d=(14,b):=by unfold Cy.Ez;rw[c,if_neg AI,if_pos c3]
   rw[hv];exact ⟨k,rfl,rfl⟩
 have c3:¬b.bl.length=24:=by have:=Ae c2;omega
 simp only[go_sem,Cy.FL b k,c,c2,Cf];refine Dm [(1000000,.box b.box),(3,.box [.p (.int .i64 d.word),.p (.int .i64 d.line),.p (.sl (CJ d.names)),.p (.sl (BX d.B7))]),(1000001,.arr 76 3 (C2 b.bl))] mixed (p:=[(0,0),(1,0),(2,0),(3,0),(4,0),(5,0),(6,0),(7,0),(8,0),(9,0),(10,0),(11,0),(12,0),(13,0),(14,3)]) (by kernel_rfl) (by simp[C8,get,Cy.box]) ?_;unfold Cy.box;simp only[go_sem,B6,e1,Cf,KK.fit,DJ,Tq,Pd.flat];refine ⟨by omega,?_⟩;refine Dm [(1000000,.box b.box),(3,.box [.p (.int .i64 d.word),.p (.int .i64 d.line),.p (.sl (CJ d.names)),.p (.sl (BX d.B7))])] mixed (p:=[(0,0),(1,0),(2,0),(3,0),(4,0),(5,0),(6,0),(7,0),(8,0),(9,0),(10,0),(11,0),(12,0),(13,0),(14,0),(15,0),(16,0),(17,0),(18,0),(19,1),(20,2),(21,0),(22,0),(23,0),(24,3)]) (by kernel_rfl) (by simp[C8,get,Cy.box]) ?_;unfold Cy.box;simp only[go_sem,B6,e1,BW,e2,e3,Cf];refine ⟨by omega,by omega,by omega,⟨EB _ _ rfl,by omega,by omega⟩,?_⟩;refine Aoz rfl Adi Ain rfl rfl ?_;simp only[go_sem];refine Aic rfl rfl rfl rfl Adi Adi Ain rfl rfl (Ir _).symm rfl rfl (by omega) (by omega) ?_;simp only[go_sem];have hv:b.Ez d=(0,{b with mb:=HS b.mb (d.names.getD 0 []) b.bl.length,bl:=b.bl++[⟨d.names.getD 0 [],d.B7.getD 0 0,d.B7.getD 1 0⟩],nx:=b.nx++[[]]}):=by
   unfold Cy.Ez;rw[c,if_neg AI,if_neg c3]
 rw[hv];refine ⟨k+1,?_,rfl⟩;simp only[Cy.FL,Ws,Ah3,Au,Ar,Az,A2,Cf]
def Aey(l:List Int)(x:Int):Int:=if x∈l then ((l.idxOf x:Nat):Int) else -1
theorem Zk{x:Int}:∀(l:List Int) (i:Nat),i<l.length->l.getD i 0=x->x∉l.take i->l.idxOf x=i
 | [],i,h,_,_=>by simp at h
 | y::r,0,_,h,_=>by simp at h;subst h;simp
 | y::r,i+1,h,h1,h2=>by
   simp only[List.take_succ_cons,AF,not_or] at h2;have:=Zk r i (by simpa using h) (by simpa [List.getD] using h1) h2.2;rw[List.idxOf_cons,this];have:(y==x)=false:=by simpa using λ e:y=x=>h2.1 e.symm
   rw[this];rfl
theorem Aqj{l:List Int}{x:Int}{i:Nat}(hi:i<l.length)(hx:l.getD i 0=x)(hn:x∉l.take i):Aey l x=(i:Int):=by
 have h1:x∈l:=by rw[<-hx];exact CK l i 0 hi
 unfold Aey;rw[if_pos h1,Zk l i hi hx hn]
theorem Zi(l:List Int)(x:Int):decide (0<=Aey l x)=decide (x∈l):=by
 unfold Aey;by_cases h:x∈l
 . rw[if_pos h];simp[h]
 . rw[if_neg h];simp[h]
theorem Aes(l:List Int)(x:Int)(hl:l.length<=10000000):
   BZ prog 171 [.ref 1000000 0 l.length l.length,.p (.int .i64 x)] [(1000000,.arr 3 1 (BX l))] λ h r=>h=[(1000000,.arr 3 1 (BX l))]/\r= .p (.int .i64 (Aey l x)):=by
 refine B1 func171 rfl Wm (by simp[Tryz.f171]) ?_;simp only[go_sem,BW];refine B5 (λ i=>⟨[(0,.ref 1000000 0 l.length l.length),(1,.p (.int .i64 x)),(4,.p (.int .i64 0)),(7,.p (.int .i64 l.length)),(8,.p (.int .i64 (i:Nat)))],[(1000000,.arr 3 1 (BX l))],19⟩) (λ i=>i<=l.length/\x∉l.take i) (λ i=>l.length - i) 0 ⟨AE _,by simp⟩ (Wk.forget (by simp[ZF,BX])) ?_;rintro i n ⟨hi,he⟩ ih;simp only[go_sem,BW];refine Cx (λ h2=>?_) (λ h2=>?_)
 . have Ct:i<l.length:=by simp at h2;omega
   have hw:=Cg i (by omega);have hg:=Cj l i Ct;have Dx:(0:Int)<=(i:Int)/\(i:Int)<(l.length:Int):=by omega
   have II:=λ h=>Aqj (x:=x) Ct h he;have hx:l[i]?=some (l.getD i 0):=by simp[List.getD,Ct]
   generalize l.getD i 0=y at*;simp only[go_sem,BW,Ab,hg,Dx];cases hv:decide (x=y)
   . simp only[go_sem,hv,hw];refine ih (i+1) _ ⟨Ct,?_⟩ (by omega) ?_
     . rw[BQ,hx];have:¬x=y:=Ae hv;simp[he,this]
     . (refine Wk.forget ?_;simp[ZF,BX];done)
   . simp only[go_sem,hv];rw[II (Ad hv).symm];try simp
 . simp only[go_sem];have:i=l.length:=by simp at h2;omega
   subst this;rw[At] at he;simp[Aey,he]
theorem XT(l:List Int)(x:Int)(hl:l.length<=10000000):
   BZ prog 142 [.ref 1000000 0 l.length l.length,.p (.int .i64 x)] [(1000000,.arr 3 1 (BX l))] λ h r=>h=[(1000000,.arr 3 1 (BX l))]/\r= .p (.bool (decide (x∈l))):=by
 refine B1 func142 rfl Ag3 (by simp[Tryz.f142]) ?_;simp only[go_sem,BW];refine OQ rfl rfl ?_;simp only[go_sem,JB];refine Ux (Aes l x hl) ?_;rintro h' r ⟨rfl,rfl⟩;simp only[go_sem,Zi]
theorem XS(rows:List (List Int))(i k:Nat)(x:Int)(hi:i<rows.length)(hl:(rows.getD i []).length<=10000000):
   BZ prog 142 [.nr 1000000 i (rows.getD i []).length k,.p (.int .i64 x)] [(1000000,.Dj 22 3 1 k (encR rows) none)] λ h r=>h=[(1000000,.Dj 22 3 1 k (encR rows) none)]/\r= .p (.bool (decide (x∈rows.getD i []))):=by
 have hg:(encR rows)[i]?=some (BX (rows.getD i [])):=by simp[encR,List.getD,hi]
 refine (UB (ps:=[.int .i64 x]) hg (BW _).symm (XT (rows.getD i []) x hl) (R':=λ es r=>es=BX (rows.getD i [])/\r= .p (.bool (decide (x∈rows.getD i [])))) ?_).mono ?_
 . rintro h' r ⟨rfl,rfl⟩;exact ⟨_,rfl,BW _,.inr ⟨_,rfl⟩,rfl,rfl⟩
 . rintro h' r ⟨NM,rfl,_,rfl,rfl⟩;refine ⟨?_,rfl⟩
   congr 4
   apply List.ext_getElem?;intro j;rw[BR];split
   . rename_i e;subst e;rw[hg];simp[encR,hi]
   . rfl
def Cy.EW(b:Cy)(x y:List UInt8):Int×Cy:=
 match DN b.mb x,DN b.mb y with
 | some i,some j=>if i=j then (10,b) else if j∈b.nx.getD i.toNat [] then (11,b) else if (b.nx.getD i.toNat []).length=4 then (14,b) else
     (0,{b with nx:=b.nx.set i.toNat (b.nx.getD i.toNat []++[j])})
 | _,_=>(9,b)
theorem Aqa(b:Cy)(k:Nat)(x y:List UInt8)(hm:∀x i,DN b.mb x=some i->∃n:Nat,i=(n:Int)/\n<b.nx.length)(hr:∀i,(b.nx.getD i []).length<=24):
   BZ prog 110 [.ptr 1000000 0,.p (.str x),.p (.str y)] (b.h k) λ h r=>∃k',h=(b.EW x y).2.h k'/\r= .p (.int .i64 (b.EW x y).1):=by
 refine B1 func110 rfl Agq (by simp[Tryz.f110]) ?_;rw[Cy.FL b k];cases c1:DN b.mb x with
 | none=>
   simp only[go_sem,KK.fit,DJ,DY,EL,c1,Bd,Option.getD_none];have hv:b.EW x y=(9,b):=by unfold Cy.EW;rw[c1]
   rw[hv];exact ⟨k,rfl,rfl⟩
 | some i=>
   cases c2:DN b.mb y with
   | none=>
     simp only[go_sem,KK.fit,DJ,DY,EL,c1,c2,Bd,Option.getD_none];have hv:b.EW x y=(9,b):=by unfold Cy.EW;rw[c1,c2]
     rw[hv];exact ⟨k,rfl,rfl⟩
   | some j=>
     obtain ⟨n,rfl,hn⟩:=hm x i c1;cases c3:decide ((n:Int)=j);rotate_left
     . simp only[go_sem,KK.fit,DJ,DY,EL,c1,c2,c3];have c3':(n:Int)=j:=Ad c3;have hv:b.EW x y=(10,b):=by unfold Cy.EW;rw[c1,c2];simp only;rw[if_pos c3']
       rw[hv];exact ⟨k,rfl,rfl⟩
     have c3':¬(n:Int)=j:=Ae c3;have hn0:(0:Int)<=(n:Int)/\(n:Int)<(b.nx.length:Int):=by omega
     simp only[go_sem,KK.fit,DJ,DY,EL,c1,c2,c3,hn0,Ab,MG,BW,Ir];refine Cq (XS b.nx n k j hn (by have:=hr n;omega)) ?_;cases c4:decide (j∈b.nx.getD n []);rotate_left
     . simp only[go_sem,c4];have r9:j∈b.nx.getD n []:=Ad c4;have hv:b.EW x y=(11,b):=by unfold Cy.EW;rw[c1,c2];simp only[Ab];rw[if_neg c3',if_pos r9]
       rw[hv];exact ⟨k,rfl,rfl⟩
     have r9:¬j∈b.nx.getD n []:=Ae c4;have hrn:=hr n;cases c5:decide (((b.nx.getD n []).length:Int)=4);rotate_left
     . simp only[go_sem,c4,c5,hn0,Ab,MG,BW,Ir];have c5':(b.nx.getD n []).length=4:=by have:=Ad c5;omega
       have hv:b.EW x y=(14,b):=by unfold Cy.EW;rw[c1,c2];simp only[Ab];rw[if_neg c3',if_neg r9,if_pos c5']
       rw[hv];exact ⟨k,rfl,rfl⟩
     have c5':¬(b.nx.getD n []).length=4:=by have:=Ae c5;omega
     simp only[go_sem,c4,c5,hn0,Ab,MG,BW,Ir];refine Dm [(1000000,.box b.box)] mixed (p:=[(0,0),(1,0),(2,0),(3,0),(4,0),(5,0),(6,0),(7,0),(8,0),(9,0),(10,0),(11,0),(12,0),(14,0),(15,1),(13,2),(16,2),(17,0),(18,3)]) (by kernel_rfl) (by simp[C8,get,Cy.box]) ?_;unfold Cy.box;simp only[go_sem,hn0,Ab,MG,BW,Ir];refine ⟨⟨EB _ _ rfl,hn,by omega,by omega⟩,?_⟩;have hv:b.EW x y=(0,{b with nx:=b.nx.set n (b.nx.getD n []++[j])}):=by
       unfold Cy.EW;rw[c1,c2];simp only[Ab];rw[if_neg c3',if_neg r9,if_neg c5']
     rw[hv];refine ⟨k+1+1,?_,rfl⟩;simp only[Cy.FL,ZS,D5,A5]
def Cy.EC(b:Cy)(d:Dc):Int×Cy:=
 if b.Iw (d.names.getD 0 [])=true then (8,b) else match DN b.mb (d.names.getD 1 []),DN b.mb (d.names.getD 2 []) with
 | some i,some j=>if decide (d.B7.getD 0 0<1)=true then (12,b) else if decide (4<d.B7.getD 0 0)=true then (12,b) else if b.sp.length=6 then (14,b) else
     (0,{b with ms:=HS b.ms (d.names.getD 0 []) b.sp.length,sp:=b.sp++[⟨d.names.getD 0 [],decide (d.word=4),i,j,d.B7.getD 0 0,0⟩],ba:=b.ba++[b.sl],sl:=b.sl+d.B7.getD 0 0})
 | _,_=>(9,b)
theorem Apc(b:Cy)(k:Nat)(d:Dc)(h1:3<=d.names.length)(h2:1<=d.B7.length)(hb:b.sp.length<=6)(hba:b.ba.length<=6)(hs:0<=b.sl/\b.sl<=1000):
   BZ prog 113 [.ptr 1000000 0,d.d] (b.h k) λ h r=>∃k',h=(b.EC d).2.h k'/\r= .p (.int .i64 (b.EC d).1):=by
 have e1:=D2 d.names 0 (by omega);have e4:=D2 d.names 1 (by omega);have e5:=D2 d.names 2 (by omega);have e2:=Cj d.B7 0 (by omega);refine B1 func113 rfl Agn (by simp[Tryz.f113]) ?_;rw[Cy.FL b k];unfold Dc.d;simp only[go_sem];cases c:b.Iw (d.names.getD 0 []);rotate_left
 . cases c1:DN b.mb (d.names.getD 1 [])<;>cases c2:DN b.mb (d.names.getD 2 [])<;>
   . skip
     refine Dm [(1000000,.box b.box),(3,.box [.p (.int .i64 d.word),.p (.int .i64 d.line),.p (.sl (CJ d.names)),.p (.sl (BX d.B7))]),(1000004,.mp (Kb b.mb))] mixed (p:=[(0,0),(1,0),(2,0),(3,0),(4,0),(5,0),(6,0),(7,0),(8,0),(9,0),(10,0),(11,0),(12,0),(13,0)]) (by kernel_rfl) (by simp[C8,get,Cy.box]) ?_;unfold Cy.box;simp only[go_sem,B6,e1,e4,e5,KK.fit,DJ,DY,EL,c1,c2,Bd];refine ⟨by omega,?_⟩;refine Dm [(1000000,.box b.box),(3,.box [.p (.int .i64 d.word),.p (.int .i64 d.line),.p (.sl (CJ d.names)),.p (.sl (BX d.B7))]),(1000004,.mp (Kb b.mb))] mixed (p:=[(0,0),(1,0),(2,0),(3,0),(4,0),(5,0),(6,0),(7,0),(8,0),(9,0),(10,0),(11,0),(12,0),(13,0)]) (by kernel_rfl) (by simp[C8,get,Cy.box]) ?_;unfold Cy.box;simp only[go_sem,B6,e1,e4,e5,KK.fit,DJ,DY,EL,c1,c2,Bd];refine ⟨by omega,by omega,?_⟩;refine Cq (Ik b k _) ?_;simp only[go_sem,Cy.FL b k,c];have hv:b.EC d=(8,b):=by unfold Cy.EC;simp only[c];try simp
     rw[hv];exact ⟨k,rfl,rfl⟩
 cases c1:DN b.mb (d.names.getD 1 []) with
 | none=>
   cases c2:DN b.mb (d.names.getD 2 [])<;>
   . skip
     refine Dm [(1000000,.box b.box),(3,.box [.p (.int .i64 d.word),.p (.int .i64 d.line),.p (.sl (CJ d.names)),.p (.sl (BX d.B7))]),(1000004,.mp (Kb b.mb))] mixed (p:=[(0,0),(1,0),(2,0),(3,0),(4,0),(5,0),(6,0),(7,0),(8,0),(9,0),(10,0),(11,0),(12,0),(13,0)]) (by kernel_rfl) (by simp[C8,get,Cy.box]) ?_;unfold Cy.box;simp only[go_sem,B6,e1,e4,e5,KK.fit,DJ,DY,EL,c1,c2,Bd];refine ⟨by omega,?_⟩;refine Dm [(1000000,.box b.box),(3,.box [.p (.int .i64 d.word),.p (.int .i64 d.line),.p (.sl (CJ d.names)),.p (.sl (BX d.B7))]),(1000004,.mp (Kb b.mb))] mixed (p:=[(0,0),(1,0),(2,0),(3,0),(4,0),(5,0),(6,0),(7,0),(8,0),(9,0),(10,0),(11,0),(12,0),(13,0)]) (by kernel_rfl) (by simp[C8,get,Cy.box]) ?_;unfold Cy.box;simp only[go_sem,B6,e1,e4,e5,KK.fit,DJ,DY,EL,c1,c2,Bd];refine ⟨by omega,by omega,?_⟩;refine Cq (Ik b k _) ?_;simp only[go_sem,Cy.FL b k,c];have hv:b.EC d=(9,b):=by unfold Cy.EC;simp only[c,c1];try simp
     rw[hv];exact ⟨k,rfl,rfl⟩
 | some i=>
   cases c2:DN b.mb (d.names.getD 2 []) with
   | none=>
     refine Dm [(1000000,.box b.box),(3,.box [.p (.int .i64 d.word),.p (.int .i64 d.line),.p (.sl (CJ d.names)),.p (.sl (BX d.B7))]),(1000004,.mp (Kb b.mb))] mixed (p:=[(0,0),(1,0),(2,0),(3,0),(4,0),(5,0),(6,0),(7,0),(8,0),(9,0),(10,0),(11,0),(12,0),(13,0)]) (by kernel_rfl) (by simp[C8,get,Cy.box]) ?_;unfold Cy.box;simp only[go_sem,B6,e1,e4,e5,KK.fit,DJ,DY,EL,c1,c2,Bd];refine ⟨by omega,?_⟩;refine Dm [(1000000,.box b.box),(3,.box [.p (.int .i64 d.word),.p (.int .i64 d.line),.p (.sl (CJ d.names)),.p (.sl (BX d.B7))]),(1000004,.mp (Kb b.mb))] mixed (p:=[(0,0),(1,0),(2,0),(3,0),(4,0),(5,0),(6,0),(7,0),(8,0),(9,0),(10,0),(11,0),(12,0),(13,0)]) (by kernel_rfl) (by simp[C8,get,Cy.box]) ?_;unfold Cy.box;simp only[go_sem,B6,e1,e4,e5,KK.fit,DJ,DY,EL,c1,c2,Bd];refine ⟨by omega,by omega,?_⟩;refine Cq (Ik b k _) ?_;simp only[go_sem,Cy.FL b k,c];have hv:b.EC d=(9,b):=by unfold Cy.EC;simp only[c,c1,c2];try simp
     rw[hv];exact ⟨k,rfl,rfl⟩
   | some j=>
     cases c3:decide (d.B7.getD 0 0<1);rotate_left
     . skip
       refine Dm [(1000000,.box b.box),(3,.box [.p (.int .i64 d.word),.p (.int .i64 d.line),.p (.sl (CJ d.names)),.p (.sl (BX d.B7))]),(1000004,.mp (Kb b.mb))] mixed (p:=[(0,0),(1,0),(2,0),(3,0),(4,0),(5,0),(6,0),(7,0),(8,0),(9,0),(10,0),(11,0),(12,0),(13,0)]) (by kernel_rfl) (by simp[C8,get,Cy.box]) ?_;unfold Cy.box;simp only[go_sem,B6,e1,e4,e5,KK.fit,DJ,DY,EL,c1,c2];refine ⟨by omega,?_⟩;refine Dm [(1000000,.box b.box),(3,.box [.p (.int .i64 d.word),.p (.int .i64 d.line),.p (.sl (CJ d.names)),.p (.sl (BX d.B7))]),(1000004,.mp (Kb b.mb))] mixed (p:=[(0,0),(1,0),(2,0),(3,0),(4,0),(5,0),(6,0),(7,0),(8,0),(9,0),(10,0),(11,0),(12,0),(13,0)]) (by kernel_rfl) (by simp[C8,get,Cy.box]) ?_;unfold Cy.box;simp only[go_sem,B6,e1,e4,e5,KK.fit,DJ,DY,EL,c1,c2];refine ⟨by omega,by omega,?_⟩;refine Cq (Ik b k _) ?_;simp only[go_sem,Cy.FL b k,c,BW,e2,c3];refine ⟨by omega,?_⟩;have hv:b.EC d=(12,b):=by unfold Cy.EC;simp only[c,c1,c2,c3];try simp
       rw[hv];exact ⟨k,rfl,rfl⟩
     cases c4:decide (4<d.B7.getD 0 0);rotate_left
     . skip
       refine Dm [(1000000,.box b.box),(3,.box [.p (.int .i64 d.word),.p (.int .i64 d.line),.p (.sl (CJ d.names)),.p (.sl (BX d.B7))]),(1000004,.mp (Kb b.mb))] mixed (p:=[(0,0),(1,0),(2,0),(3,0),(4,0),(5,0),(6,0),(7,0),(8,0),(9,0),(10,0),(11,0),(12,0),(13,0)]) (by kernel_rfl) (by simp[C8,get,Cy.box]) ?_;unfold Cy.box;simp only[go_sem,B6,e1,e4,e5,KK.fit,DJ,DY,EL,c1,c2];refine ⟨by omega,?_⟩;refine Dm [(1000000,.box b.box),(3,.box [.p (.int .i64 d.word),.p (.int .i64 d.line),.p (.sl (CJ d.names)),.p (.sl (BX d.B7))]),(1000004,.mp (Kb b.mb))] mixed (p:=[(0,0),(1,0),(2,0),(3,0),(4,0),(5,0),(6,0),(7,0),(8,0),(9,0),(10,0),(11,0),(12,0),(13,0)]) (by kernel_rfl) (by simp[C8,get,Cy.box]) ?_;unfold Cy.box;simp only[go_sem,B6,e1,e4,e5,KK.fit,DJ,DY,EL,c1,c2];refine ⟨by omega,by omega,?_⟩;refine Cq (Ik b k _) ?_;simp only[go_sem,Cy.FL b k,c,BW,e2,c3,c4];refine ⟨by omega,by omega,?_⟩;have hv:b.EC d=(12,b):=by unfold Cy.EC;simp only[c,c1,c2,c3,c4];try simp
       rw[hv];exact ⟨k,rfl,rfl⟩
     have c3':¬d.B7.getD 0 0<1:=Ae c3;have r9:¬4<d.B7.getD 0 0:=Ae c4;cases c5:decide ((b.sp.length:Int)=6);rotate_left
     . skip
       refine Dm [(1000000,.box b.box),(3,.box [.p (.int .i64 d.word),.p (.int .i64 d.line),.p (.sl (CJ d.names)),.p (.sl (BX d.B7))]),(1000004,.mp (Kb b.mb))] mixed (p:=[(0,0),(1,0),(2,0),(3,0),(4,0),(5,0),(6,0),(7,0),(8,0),(9,0),(10,0),(11,0),(12,0),(13,0)]) (by kernel_rfl) (by simp[C8,get,Cy.box]) ?_;unfold Cy.box;simp only[go_sem,B6,e1,e4,e5,KK.fit,DJ,DY,EL,c1,c2];refine ⟨by omega,?_⟩;refine Dm [(1000000,.box b.box),(3,.box [.p (.int .i64 d.word),.p (.int .i64 d.line),.p (.sl (CJ d.names)),.p (.sl (BX d.B7))]),(1000004,.mp (Kb b.mb))] mixed (p:=[(0,0),(1,0),(2,0),(3,0),(4,0),(5,0),(6,0),(7,0),(8,0),(9,0),(10,0),(11,0),(12,0),(13,0)]) (by kernel_rfl) (by simp[C8,get,Cy.box]) ?_;unfold Cy.box;simp only[go_sem,B6,e1,e4,e5,KK.fit,DJ,DY,EL,c1,c2];refine ⟨by omega,by omega,?_⟩;refine Cq (Ik b k _) ?_;simp only[go_sem,Cy.FL b k,c,BW,e2,c3,c4,c5,Cb];refine ⟨by omega,by omega,?_⟩;have c5':b.sp.length=6:=by have:=Ad c5;omega
       have hv:b.EC d=(14,b):=by unfold Cy.EC;simp only[c,c1,c2,c3,c4,c5'];try simp
       rw[hv];exact ⟨k,rfl,rfl⟩
     have c5':¬b.sp.length=6:=by have:=Ae c5;omega
     refine Dm [(1000000,.box b.box),(3,.box [.p (.int .i64 d.word),.p (.int .i64 d.line),.p (.sl (CJ d.names)),.p (.sl (BX d.B7))]),(1000004,.mp (Kb b.mb))] mixed (p:=[(0,0),(1,0),(2,0),(3,0),(4,0),(5,0),(6,0),(7,0),(8,0),(9,0),(10,0),(11,0),(12,0),(13,0)]) (by kernel_rfl) (by simp[C8,get,Cy.box]) ?_;unfold Cy.box;simp only[go_sem,B6,e1,e4,e5,KK.fit,DJ,DY,EL,c1,c2];refine ⟨by omega,?_⟩;refine Dm [(1000000,.box b.box),(3,.box [.p (.int .i64 d.word),.p (.int .i64 d.line),.p (.sl (CJ d.names)),.p (.sl (BX d.B7))]),(1000004,.mp (Kb b.mb))] mixed (p:=[(0,0),(1,0),(2,0),(3,0),(4,0),(5,0),(6,0),(7,0),(8,0),(9,0),(10,0),(11,0),(12,0),(13,0)]) (by kernel_rfl) (by simp[C8,get,Cy.box]) ?_;unfold Cy.box;simp only[go_sem,B6,e1,e4,e5,KK.fit,DJ,DY,EL,c1,c2];refine ⟨by omega,by omega,?_⟩;refine Cq (Ik b k _) ?_;simp only[go_sem,Cy.FL b k,c,BW,e2,c3,c4,c5,Cb];refine ⟨by omega,by omega,?_⟩;refine Dm [(1000000,.box b.box),(3,.box [.p (.int .i64 d.word),.p (.int .i64 d.line),.p (.sl (CJ d.names)),.p (.sl (BX d.B7))]),(1000003,.arr 68 6 (C1 b.sp))] mixed (p:=[(0,0),(1,0),(2,0),(3,0),(4,0),(5,0),(6,0),(7,0),(8,0),(9,0),(10,0),(11,0),(12,0),(13,0),(14,3)]) (by kernel_rfl) (by simp[C8,get,Cy.box]) ?_;unfold Cy.box;simp only[go_sem,B6,e1,Cb,KK.fit,DJ,Tq,Pd.flat];refine ⟨by omega,?_⟩;refine Dm [(1000000,.box b.box),(3,.box [.p (.int .i64 d.word),.p (.int .i64 d.line),.p (.sl (CJ d.names)),.p (.sl (BX d.B7))])] mixed (p:=[(0,0),(1,0),(2,0),(3,0),(4,0),(5,0),(6,0),(7,0),(8,0),(9,0),(10,0),(11,0),(12,0),(13,0),(14,0),(15,0),(16,0),(17,0),(18,0),(19,0),(20,1),(21,2),(22,0),(23,0),(24,0),(25,3)]) (by kernel_rfl) (by simp[C8,get,Cy.box]) ?_;unfold Cy.box;simp only[go_sem,B6,e1,BW,e2,Cb,Au];refine ⟨by omega,by omega,⟨EB _ _ rfl,by omega,by omega⟩,?_⟩;refine Dm [(1000000,.box (Cy.box {b with sp:=b.sp++[⟨d.names.getD 0 [],decide (d.word=4),i,j,d.B7.getD 0 0,0⟩]}))] mixed (p:=[(0,0),(1,0),(2,0),(3,0),(4,0),(5,0),(6,0),(7,0),(8,0),(9,1),(10,2),(11,0),(12,0),(13,3)]) (by kernel_rfl) (by simp[C8,get,Cy.box,Cb]) ?_;unfold Cy.box;simp only[go_sem,BW,Au];refine ⟨⟨EB _ _ rfl,by omega,by omega⟩,?_⟩;have hw:IntKind.i64.wrap (b.sl+d.B7.getD 0 0)=b.sl+d.B7.getD 0 0:=by rw[B3]<;>omega
     refine Dm [(1000000,.box (Cy.box {b with sp:=b.sp++[⟨d.names.getD 0 [],decide (d.word=4),i,j,d.B7.getD 0 0,0⟩],ba:=b.ba++[b.sl]})),(3,.box [.p (.int .i64 d.word),.p (.int .i64 d.line),.p (.sl (CJ d.names)),.p (.sl (BX d.B7))])] mixed (p:=[(0,0),(1,0),(2,0),(3,0),(4,0),(5,0),(6,0),(7,0),(8,0),(9,0),(10,0),(11,3)]) (by kernel_rfl) (by simp[C8,get,Cy.box,Cb,BW]) ?_;unfold Cy.box;simp only[go_sem,BW,e2,hw,Au];refine ⟨by omega,?_⟩;have hv:b.EC d=(0,{b with ms:=HS b.ms (d.names.getD 0 []) b.sp.length,sp:=b.sp++[⟨d.names.getD 0 [],decide (d.word=4),i,j,d.B7.getD 0 0,0⟩],ba:=b.ba++[b.sl],sl:=b.sl+d.B7.getD 0 0}):=by
       unfold Cy.EC;simp only[c,c1,c2,c3,c4,if_neg c5',AJ,A9]
     rw[hv];refine ⟨k,?_,rfl⟩;simp only[Cy.FL,Nk,D5,Au,Ar,Az,A2]
def inV(n lo hi:Int):Bool:=decide (lo<=n)&&decide (n<=hi)
theorem MT(n lo hi:Int):BZ prog 40 [.p (.int .i64 n),.p (.int .i64 lo),.p (.int .i64 hi)] [] λ h r=>h=[]/\r= .p (.bool (inV n lo hi)):=by
 refine B1 func40 rfl ZP (by simp[Tryz.f40]) ?_;cases c:decide (lo<=n)
 . simp only[go_sem,c];try simp[inV,c]
 . simp only[go_sem,c];try simp[inV,c]
def Vm(q a d p:Int):Bool:=inV q 1 8&&(inV a 0 4&&(inV d 0 3&&inV p 1 16))
theorem SN(q a d p:Int):BZ prog 41 [.agg [.p (.int .i64 q),.p (.int .i64 a),.p (.int .i64 d),.p (.int .i64 p)]] [] λ h r=>h=[]/\r= .p (.bool (Vm q a d p)):=by
 refine B1 func41 rfl ZO (by simp[Tryz.f41]) ?_;simp only[go_sem];refine Cq ((MT q 1 8)) ?_;cases c1:inV q 1 8
 . simp only[go_sem,c1];try simp[Vm,c1]
 simp only[go_sem,c1];refine Cq ((MT a 0 4)) ?_;cases c2:inV a 0 4
 . simp only[go_sem,c2];try simp[Vm,c1,c2]
 simp only[go_sem,c2];refine Cq ((MT d 0 3)) ?_;cases c3:inV d 0 3
 . simp only[go_sem,c3];try simp[Vm,c1,c2,c3]
 simp only[go_sem,c3];refine Cq ((MT p 1 16)) ?_;simp only[go_sem];try simp[Vm,c1,c2,c3]
def Cy.DE(b:Cy)(d:Dc):Int×Cy:=
 if b.cf=true then (11,b) else if Vm (d.B7.getD 0 0) (d.B7.getD 1 0) (d.B7.getD 2 0) (d.B7.getD 3 0)=false then (19,b) else
   (0,{b with cq:=d.B7.getD 0 0,ca:=d.B7.getD 1 0,cd:=d.B7.getD 2 0,cp:=d.B7.getD 3 0,cf:=true})
theorem Ahh(b:Cy)(k:Nat)(d:Dc)(h2:4<=d.B7.length):
   BZ prog 112 [.ptr 1000000 0,d.d] (b.h k) λ h r=>∃k',h=(b.DE d).2.h k'/\r= .p (.int .i64 (b.DE d).1):=by
 have e0:=Cj d.B7 0 (by omega);have e1:=Cj d.B7 1 (by omega);have e2:=Cj d.B7 2 (by omega);have e3:=Cj d.B7 3 (by omega);refine B1 func112 rfl Ago (by simp[Tryz.f112]) ?_;rw[Cy.FL b k];unfold Dc.d;simp only[go_sem];refine Dm [(3,.box [.p (.int .i64 d.word),.p (.int .i64 d.line),.p (.sl (CJ d.names)),.p (.sl (BX d.B7))])] mixed (p:=[(0,0),(1,0),(2,0),(3,0),(4,0),(5,0),(6,0),(7,0),(8,0),(9,0),(10,0),(11,0),(12,0),(13,0),(14,0),(15,0),(16,0),(17,1),(18,3)]) (by kernel_rfl) (by simp[C8,get]) ?_;cases c:b.cf;rotate_left
 . simp only[go_sem,BW,e0,e1,e2,e3,c];refine ⟨by omega,by omega,by omega,by omega,?_⟩;have hv:b.DE d=(11,b):=by unfold Cy.DE;rw[if_pos c]
   rw[hv];refine ⟨k,?_,rfl⟩;rw[Cy.FL,c]
 simp only[go_sem,BW,e0,e1,e2,e3,c];refine ⟨by omega,by omega,by omega,by omega,?_⟩;refine Cq ((SN (d.B7.getD 0 0) (d.B7.getD 1 0) (d.B7.getD 2 0) (d.B7.getD 3 0))) ?_;cases c2:Vm (d.B7.getD 0 0) (d.B7.getD 1 0) (d.B7.getD 2 0) (d.B7.getD 3 0)
 . simp only[go_sem,c2];have hv:b.DE d=(19,b):=by unfold Cy.DE;rw[c,if_neg AI,if_pos c2]
   rw[hv];refine ⟨k,?_,rfl⟩;rw[Cy.FL,c]
 simp only[go_sem,c2];have hv:b.DE d=(0,{b with cq:=d.B7.getD 0 0,ca:=d.B7.getD 1 0,cd:=d.B7.getD 2 0,cp:=d.B7.getD 3 0,cf:=true}):=by unfold Cy.DE;rw[c,if_neg AI,c2,if_neg (by simp)]
 rw[hv];exact ⟨k,rfl,rfl⟩
def Aez(l:List (Int×Int))(x:Int×Int):Int:=if x∈l then ((l.idxOf x:Nat):Int) else -1
theorem V1{x:Int×Int}:∀(l:List (Int×Int)) (i:Nat),i<l.length->l.getD i (0,0)=x->x∉l.take i->l.idxOf x=i
 | [],i,h,_,_=>by simp at h
 | y::r,0,_,h,_=>by simp at h;subst h;simp
 | y::r,i+1,h,h1,h2=>by
   simp only[List.take_succ_cons,AF,not_or] at h2;have:=V1 r i (by simpa using h) (by simpa [List.getD] using h1) h2.2;rw[List.idxOf_cons,this];have:(y==x)=false:=by simpa using λ e:y=x=>h2.1 e.symm
   rw[this];rfl
theorem Aqk{l:List (Int×Int)}{x:Int×Int}{i:Nat}(hi:i<l.length)(hx:l.getD i (0,0)=x)(hn:x∉l.take i):Aez l x=(i:Int):=by
 have h1:x∈l:=by rw[<-hx];exact CK l i (0,0) hi
 unfold Aez;rw[if_pos h1,V1 l i hi hx hn]
theorem Zj(l:List (Int×Int))(x:Int×Int):decide (0<=Aez l x)=decide (x∈l):=by
 unfold Aez;by_cases h:x∈l
 . rw[if_pos h];simp[h]
 . rw[if_neg h];simp[h]
theorem Anb(l:List (Int×Int))(i:Nat)(h:i<l.length):(IC l).getD i []=[.int .i64 (l.getD i (0,0)).1,.int .i64 (l.getD i (0,0)).2]:=by simp[IC,List.getD,h]
theorem Aap(l:List (Int×Int))(x:Int×Int)(hl:l.length<=10000000):
   BZ prog 172 [.ref 1000000 0 l.length l.length,.agg [.p (.int .i64 x.1),.p (.int .i64 x.2)]] [(1000000,.arr 120 2 (IC l))] λ h r=>h=[(1000000,.arr 120 2 (IC l))]/\r= .p (.int .i64 (Aez l x)):=by
 refine B1 func172 rfl Afq (by simp[Tryz.f172]) ?_;simp only[go_sem,EN];refine B5 (λ i=>⟨[(0,.ref 1000000 0 l.length l.length),(3,.ptr 3 0),(4,.p (.int .i64 0)),(7,.p (.int .i64 l.length)),(8,.p (.int .i64 (i:Nat)))],[(3,.box [.p (.int .i64 x.1),.p (.int .i64 x.2)]),(1000000,.arr 120 2 (IC l))],19⟩) (λ i=>i<=l.length/\x∉l.take i) (λ i=>l.length - i) 0 ⟨AE _,by simp⟩ (Wk.forget (by simp[ZF,IC])) ?_;rintro i n ⟨hi,he⟩ ih;simp only[go_sem,EN];refine Cx (λ h2=>?_) (λ h2=>?_)
 . have Ct:i<l.length:=by simp at h2;omega
   have hw:=Cg i (by omega);have hg:=Anb l i Ct;have Dx:(0:Int)<=(i:Int)/\(i:Int)<(l.length:Int):=by omega
   have II:=λ h=>Aqk (x:=x) Ct h he;have hx:l[i]?=some (l.getD i (0,0)):=by simp[List.getD,Ct]
   generalize l.getD i (0,0)=y at*;simp only[go_sem,EN,Ab,hg,Dx];refine Dm [(3,.box [.p (.int .i64 x.1),.p (.int .i64 x.2)]),(1000000,.arr 120 2 (IC l))] mixed (p:=[(0,0),(1,0),(2,0),(3,0),(4,0),(5,0)]) (by kernel_rfl) (by simp[C8,get]) ?_;cases h1:decide (x.1=y.1)
   . simp only[go_sem,EN,Ab,hg,Dx,h1,hw];have Dl:¬x=y:=λ e=>(Ae h1) (by rw[e]);refine ih (i+1) _ ⟨Ct,by rw[BQ,hx];simp[he,Dl]⟩ (by omega) ?_
     (refine Wk.forget ?_;simp[ZF,IC];done)
   cases h2:decide (x.2=y.2)
   . simp only[go_sem,EN,Ab,hg,Dx,h1,h2,hw];have Dl:¬x=y:=λ e=>(Ae h2) (by rw[e]);refine ih (i+1) _ ⟨Ct,by rw[BQ,hx];simp[he,Dl]⟩ (by omega) ?_
     (refine Wk.forget ?_;simp[ZF,IC];done)
   . simp only[go_sem,EN,Ab,hg,Dx,h1,h2,hw];rw[II (Prod.ext (Ad h1).symm (Ad h2).symm)]
 . simp only[go_sem];have:i=l.length:=by simp at h2;omega
   subst this;rw[At] at he;simp[Aez,he]
theorem Vk(l:List (Int×Int))(x:Int×Int)(hl:l.length<=10000000):
   BZ prog 143 [.ref 1000000 0 l.length l.length,.agg [.p (.int .i64 x.1),.p (.int .i64 x.2)]] [(1000000,.arr 120 2 (IC l))] λ h r=>h=[(1000000,.arr 120 2 (IC l))]/\r= .p (.bool (decide (x∈l))):=by
 refine B1 func143 rfl Ag2 (by simp[Tryz.f143]) ?_;simp only[go_sem,EN];refine OQ rfl rfl ?_;simp only[go_sem,JB];refine Ux (Aap l x hl) ?_;rintro h' r ⟨rfl,rfl⟩;simp only[go_sem,Zj]
def Cy.Du(b:Cy)(d:Dc):Int×Cy:=
 match DN b.ms (d.names.getD 0 []) with
 | none=>(9,b)
 | some i=>if (b.sp.getD i.toNat Cm).CA=false then (9,b) else if decide (d.B7.getD 0 0<1)=true then (12,b) else if decide ((b.sp.getD i.toNat Cm).Co<d.B7.getD 0 0)=true then (12,b) else
     if (i,d.B7.getD 0 0)∈b.pl then (13,b) else if b.pl.length=8 then (14,b) else (0,{b with pl:=b.pl++[(i,d.B7.getD 0 0)]})
theorem Aj7(b:Cy)(k:Nat)(d:Dc)(h1:1<=d.names.length)(h2:1<=d.B7.length)(hb:b.pl.length<=8)(hm:∀x i,DN b.ms x=some i->∃n:Nat,i=(n:Int)/\n<b.sp.length):
   BZ prog 111 [.ptr 1000000 0,d.d] (b.h k) λ h r=>∃k',h=(b.Du d).2.h k'/\r= .p (.int .i64 (b.Du d).1):=by
 have e1:=D2 d.names 0 (by omega);have e2:=Cj d.B7 0 (by omega);refine B1 func111 rfl Agp (by simp[Tryz.f111]) ?_;rw[Cy.FL b k];unfold Dc.d;simp only[go_sem];refine Dm [(1000000,.box b.box),(3,.box [.p (.int .i64 d.word),.p (.int .i64 d.line),.p (.sl (CJ d.names)),.p (.sl (BX d.B7))]),(1000005,.mp (Kb b.ms))] mixed (p:=[(0,0),(1,0),(2,0),(3,0),(4,0),(5,0),(6,0),(7,0),(8,0),(9,0),(10,0),(11,0),(12,0),(13,0)]) (by kernel_rfl) (by simp[C8,get,Cy.box]) ?_;unfold Cy.box;cases c1:DN b.ms (d.names.getD 0 []) with
 | none=>
   simp only[go_sem,B6,e1,KK.fit,DJ,DY,EL,c1,Bd,BW,e2];refine ⟨by omega,by omega,?_⟩;have hv:b.Du d=(9,b):=by unfold Cy.Du;rw[c1]
   rw[hv];exact ⟨k,rfl,rfl⟩
 | some i=>
   obtain ⟨n,rfl,hn⟩:=hm _ i c1;have hn0:(0:Int)<=(n:Int)/\(n:Int)<(b.sp.length:Int):=by omega
   have hg:=Fa b.sp n hn;cases c2:(b.sp.getD n Cm).CA
   . simp only[go_sem,B6,e1,KK.fit,DJ,DY,EL,c1,BW,e2,Cb,hn0,Ab,hg,c2];refine ⟨by omega,by omega,?_⟩;have hv:b.Du d=(9,b):=by unfold Cy.Du;rw[c1];simp only[Ab,c2,AM]
     rw[hv];exact ⟨k,rfl,rfl⟩
   cases c3:decide (d.B7.getD 0 0<1);rotate_left
   . simp only[go_sem,B6,e1,KK.fit,DJ,DY,EL,c1,BW,e2,Cb,hn0,Ab,hg,c2,c3];refine ⟨by omega,by omega,?_⟩;have hv:b.Du d=(12,b):=by unfold Cy.Du;rw[c1];simp only[Ab,c2,c3,BM,A9,AM]
     rw[hv];exact ⟨k,rfl,rfl⟩
   cases c4:decide ((b.sp.getD n Cm).Co<d.B7.getD 0 0);rotate_left
   . simp only[go_sem,B6,e1,KK.fit,DJ,DY,EL,c1,BW,e2,Cb,hn0,Ab,hg,c2,c3,c4];refine ⟨by omega,by omega,?_⟩;have hv:b.Du d=(12,b):=by unfold Cy.Du;rw[c1];simp only[Ab,c2,c3,c4,BM,AJ,A9,AM]
     rw[hv];exact ⟨k,rfl,rfl⟩
   simp only[go_sem,B6,e1,KK.fit,DJ,DY,EL,c1,BW,e2,Cb,hn0,Ab,hg,c2,c3,c4,EN];refine ⟨by omega,by omega,?_⟩;refine OQ rfl rfl ?_;simp only[go_sem,JB];refine Ux (Vk b.pl ((n:Int),d.B7.getD 0 0) (by omega)) ?_;rintro h' r ⟨rfl,rfl⟩;cases c5:decide (((n:Int),d.B7.getD 0 0)∈b.pl);rotate_left
   . simp only[go_sem,c5];have hv:b.Du d=(13,b):=by unfold Cy.Du;rw[c1];simp only[Ab,c2,c3,c4,BM,AJ,A9,AM,if_pos (Ad c5)]
     rw[hv];exact ⟨k,rfl,rfl⟩
   have c5':=Ae c5;cases c6:decide ((b.pl.length:Int)=8);rotate_left
   . simp only[go_sem,c5,c6,EN];have c6':b.pl.length=8:=by have:=Ad c6;omega
     have hv:b.Du d=(14,b):=by unfold Cy.Du;rw[c1];simp only[Ab,c2,c3,c4,BM,AJ,A9,AM,if_neg c5',if_pos c6']
     rw[hv];exact ⟨k,rfl,rfl⟩
   have c6':¬b.pl.length=8:=by have:=Ae c6;omega
   simp only[go_sem,c5,c6,EN];refine ⟨⟨EB _ _ rfl,by omega,by omega⟩,?_⟩;have hv:b.Du d=(0,{b with pl:=b.pl++[((n:Int),d.B7.getD 0 0)]}):=by unfold Cy.Du;rw[c1];simp only[Ab,c2,c3,c4,BM,AJ,A9,if_neg c5',if_neg c6']
   rw[hv];refine ⟨k,?_,rfl⟩;simp only[Cy.FL,Ah4,EN,Au,Ar,Az,A2]
def FC{α:Type}(p:α->Bool):Nat->List α->Int
 | _,[]=>-1
 | k,x::r=>if p x then (k:Int) else FC p (k+1) r
theorem H3{α:Type}(p:α->Bool)(l:List α):∀(i:Nat),i<=l.length->(∀j x,j<i->l[j]?=some x->p x=false)->FC p 0 l=FC p i (l.drop i):=by
 intro i
 induction i with
 | zero=>intro _ _;rfl
 | succ i ih=>
   intro h1 h2;rw[ih (by omega) (λ j x hj hx=>h2 j x (by omega) hx),AX (by omega)];have:=h2 i l[i] (by omega) (Ax (by omega));simp[FC,this]
theorem Aet(l:List (List UInt8))(hl:l.length<=140737488355328)(g:FuncId)(p:List UInt8->Bool)(hp:∀x,BZ prog g [.p (.str x)] [] λ h r=>h=[]/\r= .p (.bool (p x))):
   BZ prog 157 [.p (.sl (CJ l)),.fn g []] [] λ h r=>h=[]/\r= .p (.int .i64 (FC p 0 l)):=by
 refine B1 func157 rfl Afw (by simp[Tryz.f157]) ?_;simp only[go_sem,B6];refine B5 (λ i=>⟨[(0,.p (.sl (CJ l))),(1,.fn g []),(7,.p (.int .i64 (l.length:Nat))),(8,.p (.int .i64 (i:Nat)))],[],19⟩) (λ i=>i<=l.length/\∀j x,j<i->l[j]?=some x->p x=false) (λ i=>l.length - i) 0 ⟨AE _,by simp⟩
   (Wk.forget (by simp[Le,UM,C8,get,Ew,DT,Gy,D.ids,Da])) ?_
 rintro i n ⟨hi,he⟩ ih;simp only[go_sem];refine Cx (λ h2=>?_) (λ h2=>?_)
 . have Ct:i<l.length:=by simp at h2;omega
   simp only[go_sem,B6,Ab,D2 l i Ct];have hw:=Cg i (by omega);have hx:l[i]?=some (l.getD i []):=by simp[List.getD,Ct]
   have PI:l.drop i=l.getD i []::l.drop (i+1):=by rw[AX Ct];simp[List.getD,Ct]
   refine ⟨by omega,DF (hp _) ?_⟩;rintro h' r ⟨rfl,rfl⟩;simp only[go_sem];cases hpx:p (l.getD i [])
   . simp only[go_sem,hw];refine ih (i+1) _ ⟨by omega,λ j x hj hjx=>?_⟩ (by omega) (Wk.forget (by simp[Le,UM,C8,get,Ew,DT,Gy,D.ids,Da]));rcases AG.1 hj with hj | rfl
     . exact he j x hj hjx
     . rw[hx] at hjx;cases hjx;exact hpx
   . simp only[go_sem];rw[H3 p l i hi he,PI];simp only[FC,hpx,AM,and_self]
 . simp only[go_sem];have:i=l.length:=by simp at h2;omega
   rw[H3 p l i hi he,this,BA];simp[FC]
theorem Aeu(l:List Int)(hl:l.length<=140737488355328)(g:FuncId)(p:Int->Bool)(hp:∀x,BZ prog g [.p (.int .i64 x)] [] λ h r=>h=[]/\r= .p (.bool (p x))):
   BZ prog 158 [.p (.sl (BX l)),.fn g []] [] λ h r=>h=[]/\r= .p (.int .i64 (FC p 0 l)):=by
 refine B1 func158 rfl Afv (by simp[Tryz.f158]) ?_;simp only[go_sem,BW];refine B5 (λ i=>⟨[(0,.p (.sl (BX l))),(1,.fn g []),(7,.p (.int .i64 (l.length:Nat))),(8,.p (.int .i64 (i:Nat)))],[],19⟩) (λ i=>i<=l.length/\∀j x,j<i->l[j]?=some x->p x=false) (λ i=>l.length - i) 0 ⟨AE _,by simp⟩
   (Wk.forget (by simp[Le,UM,C8,get,Ew,DT,Gy,D.ids,Da])) ?_
 rintro i n ⟨hi,he⟩ ih;simp only[go_sem];refine Cx (λ h2=>?_) (λ h2=>?_)
 . have Ct:i<l.length:=by simp at h2;omega
   simp only[go_sem,BW,Ab,Cj l i Ct];have hw:=Cg i (by omega);have hx:l[i]?=some (l.getD i 0):=by simp[List.getD,Ct]
   have PI:l.drop i=l.getD i 0::l.drop (i+1):=by rw[AX Ct];simp[List.getD,Ct]
   refine ⟨by omega,DF (hp _) ?_⟩;rintro h' r ⟨rfl,rfl⟩;simp only[go_sem];cases hpx:p (l.getD i 0)
   . simp only[go_sem,hw];refine ih (i+1) _ ⟨by omega,λ j x hj hjx=>?_⟩ (by omega) (Wk.forget (by simp[Le,UM,C8,get,Ew,DT,Gy,D.ids,Da]));rcases AG.1 hj with hj | rfl
     . exact he j x hj hjx
     . rw[hx] at hjx;cases hjx;exact hpx
   . simp only[go_sem];rw[H3 p l i hi he,PI];simp only[FC,hpx,AM,and_self]
 . simp only[go_sem];have:i=l.length:=by simp at h2;omega
   rw[H3 p l i hi he,this,BA];simp[FC]
theorem XU(l:List (List UInt8))(hl:l.length<=140737488355328)(g:FuncId)(p:List UInt8->Bool)(hp:∀x,BZ prog g [.p (.str x)] [] λ h r=>h=[]/\r= .p (.bool (p x))):
   BZ prog 125 [.p (.sl (CJ l)),.fn g []] [] λ h r=>h=[]/\r= .p (.bool (decide (0<=FC p 0 l))):=by
 refine B1 func125 rfl Agd (by simp[Tryz.f125]) ?_;simp only[go_sem];refine Cq (Aet l hl g p hp) ?_;simp only[go_sem]
theorem XV(l:List Int)(hl:l.length<=140737488355328)(g:FuncId)(p:Int->Bool)(hp:∀x,BZ prog g [.p (.int .i64 x)] [] λ h r=>h=[]/\r= .p (.bool (p x))):
   BZ prog 127 [.p (.sl (BX l)),.fn g []] [] λ h r=>h=[]/\r= .p (.bool (decide (0<=FC p 0 l))):=by
 refine B1 func127 rfl Agb (by simp[Tryz.f127]) ?_;simp only[go_sem];refine Cq (Aeu l hl g p hp) ?_;simp only[go_sem]
theorem Adb(x:List UInt8):BZ prog 126 [.p (.str x)] [] λ h r=>h=[]/\r= .p (.bool (!CL x)):=by
 refine B1 func126 rfl Agc (by simp[Tryz.f126]) ?_;simp only[go_sem];refine Cq (Pp x) ?_;simp only[go_sem]
theorem Ada(n:Int):BZ prog 128 [.p (.int .i64 n)] [] λ h r=>h=[]/\r= .p (.bool (decide (n< -9999)||decide (9999<n))):=by
 refine B1 func128 rfl Aga (by simp[Tryz.f128]) ?_;by_cases h1:n< -9999<;>by_cases h2:9999<n<;>
 . simp only[go_sem,h1,h2];try simp[h1,h2]
def CG(w:Int):Int×Int:=if w=1 then (1,2) else if w=2 then (2,0) else if w=3∨w=4 then (3,1) else if w=5 then (1,1) else (0,4)
structure Fm where
 word:List UInt8
 fields:List UInt8
 more:Bool
def HK:List Fm:=[⟨[],[],false⟩,⟨[98,108,111,99,107],[78,35,35],false⟩,⟨[108,97,110,101],[78,78],true⟩,⟨[115,116,97,116,105,111,110],[78,78,78,35],false⟩,
 ⟨[100,101,112,111,116],[78,78,78,35],false⟩,⟨[114,111,98,111,116],[78,35],false⟩,⟨[99,111,110,102,105,103],[35,35,35,35],false⟩]
def fmC(f:Fm):List Pd:=[.str f.word,.str f.fields,.bool f.more]
theorem TY:BZ prog 92 [] [] λ h r=>h=[]/\r= .agg ((HK.flatMap fmC).map .p):=by
 refine B1 func92 rfl Alp (by simp[Tryz.f92]) ?_;simp only[go_sem];refine C0 ?_;simp only[go_sem];rfl
def Ak6(num:Int)(fs:List (List UInt8)):List D:=[.p (.int .i64 num),.p (.sl (CJ fs))]
theorem Ae5(f:Fm)(num:Int)(w:List UInt8)(fs:List (List UInt8)):BZ prog 107 [.agg ((fmC f).map .p),.ptr 1000000 0] [(1000000,.box (Ak6 num (w::fs)))] λ h r=>h=[(1000000,.box (Ak6 num (w::fs)))]/\r= .p (.bool (decide (f.word=w))):=by
 refine B1 func107 rfl Agt (by simp[Tryz.f107]) ?_;unfold Ak6 fmC;simp only[go_sem];refine Dm [(1000000,.box [.p (.int .i64 num),.p (.sl (CJ (w::fs)))]),(2,.box [.p (.str f.word),.p (.str f.fields),.p (.bool f.more)])] mixed (p:=[(0,0),(1,0),(2,0),(3,0),(4,0),(5,0),(6,0),(7,0)]) (by kernel_rfl) (by simp[C8,get]) ?_;have h0:(CJ (w::fs)).getD 0 []=[.str w]:=rfl;simp only[go_sem,B6,h0];omega
def Ah8(l:List Fm):List (List Pd):=l.map fmC
theorem ZV(l:List Fm):(Ah8 l).length=l.length:=by simp[Ah8]
theorem Ane(l:List Fm)(i:Nat)(h:i<l.length):(Ah8 l).getD i []=[.str l[i].word,.str l[i].fields,.bool l[i].more]:=by simp[Ah8,List.getD,h,fmC]
theorem Aev(l:List Fm)(hl:l.length<=140737488355328)(g:FuncId)(p:Fm->Bool)(x1 x2:Pd)
   (hp:∀x:Fm,BZ prog g [.agg [.p (.str x.word),.p (.str x.fields),.p (.bool x.more)],.ptr 1000000 0] [(1000000,.box [.p x1,.p x2])] λ h r=>h=[(1000000,.box [.p x1,.p x2])]/\r= .p (.bool (p x))):
   BZ prog 106 [.p (.sl (Ah8 l)),.fn g [.ptr 1000000 0]] [(1000000,.box [.p x1,.p x2])] λ h r=>h=[(1000000,.box [.p x1,.p x2])]/\r= .p (.int .i64 (FC p 0 l)):=by
 refine B1 func106 rfl Agu (by simp[Tryz.f106]) ?_;simp only[go_sem,ZV];refine B5 (λ i=>⟨[(0,.p (.sl (Ah8 l))),(1,.fn g [.ptr 1000000 0]),(7,.p (.int .i64 (l.length:Nat))),(8,.p (.int .i64 (i:Nat)))],[(1000000,.box [.p x1,.p x2])],19⟩) (λ i=>i<=l.length/\∀j x,j<i->l[j]?=some x->p x=false) (λ i=>l.length - i) 0 ⟨AE _,by simp⟩
   (Wk.forget (by simp[ZF])) ?_
 rintro i n ⟨hi,he⟩ ih;simp only[go_sem];refine Cx (λ h2=>?_) (λ h2=>?_)
 . have Ct:i<l.length:=by simp at h2;omega
   simp only[go_sem,ZV,Ab,Ane l i Ct];have hw:=Cg i (by omega);have hx:l[i]?=some l[i]:=by simp
   have PI:l.drop i=l[i]::l.drop (i+1):=by rw[AX Ct]
   refine ⟨by omega,DF (hp l[i]) ?_⟩;rintro h' r ⟨rfl,rfl⟩;simp only[go_sem];cases hpx:p l[i]
   . simp only[go_sem,hw];refine ih (i+1) _ ⟨by omega,λ j x hj hjx=>?_⟩ (by omega) (Wk.forget (by simp[ZF]));rcases AG.1 hj with hj | rfl
     . exact he j x hj hjx
     . rw[hx] at hjx;cases hjx;exact hpx
   . simp only[go_sem];rw[H3 p l i hi he,PI];simp only[FC,hpx,AM,and_self]
 . simp only[go_sem];have:i=l.length:=by simp at h2;omega
   rw[H3 p l i hi he,this,BA];simp[FC]
def rd:Nat->List (List UInt8)->Dc->Dc×Int
 | _,[],d=>(d,0)
 | 0,s::r,d=>if (Pl s).2 then rd 0 r {d with B7:=d.B7++[(Pl s).1]} else (OM,7)
 | k+1,s::r,d=>if CL s then rd k r {d with names:=d.names++[s]} else (OM,6)
def ED(j:Nat):Fm:=HK.getD j ⟨[],[],false⟩
def Lu(w:List UInt8):Int:=FC (λ f:Fm=>decide (f.word=w)) 0 HK.tail+1
def QM(num:Int)(fs:List (List UInt8)):Dc×Int:=
 match fs with
 | []=>(OM,20)
 | w::rest=>
   if Lu w=0 then (OM,4)
   else if (rest.length:Int)<(CG (Lu w)).1+(CG (Lu w)).2∨((CG (Lu w)).1+(CG (Lu w)).2<(rest.length:Int)/\Lu w≠2) then (OM,5)
   else rd (rest.length - (CG (Lu w)).2.toNat) rest ⟨Lu w,num,[],[]⟩
theorem Wj{α:Type}(p:α->Bool):∀(l:List α) (k:Nat),FC p k l=-1∨∃i:Nat,i<l.length/\FC p k l=((k+i:Nat):Int)
 | [],k=> .inl rfl
 | x::r,k=>by
   simp only[FC];split
   . exact .inr ⟨0,by simp,rfl⟩
   . rcases Wj p r (k+1) with h | ⟨i,h1,h2⟩
     . exact .inl h
     . exact .inr ⟨i+1,by simp;omega,by rw[h2];omega⟩
theorem Ad4(w:List UInt8):∃j:Nat,j<7/\Lu w=(j:Nat):=by
 rcases Wj (λ f:Fm=>decide (f.word=w)) HK.tail 0 with h | ⟨i,h1,h2⟩
 . exact ⟨0,by omega,by rw[Lu,h];rfl⟩
 . have:HK.tail.length=6:=rfl;exact ⟨i+1,by omega,by rw[Lu,h2];omega⟩
theorem OB(j:Nat)(h:j<7):((HK.flatMap fmC).drop (j*3)).take 3=[.str (ED j).word,.str (ED j).fields,.bool (ED j).more]:=by
 rcases j with _ | _ | _ | _ | _ | _ | _ | j
 all_goals first | rfl | omega
theorem TZ(j:Nat)(h:j<7)(h0:1<=j):((ED j).fields.length:Int)=(CG j).1+(CG j).2/\(∀i:Nat,i<(ED j).fields.length->((((ED j).fields.getD i 0).toNat:Int)=35↔(CG j).1<=(i:Int)))/\(ED j).more=decide ((j:Int)=2)/\0<=(CG j).1/\0<=(CG j).2:=by
 rcases j with _ | _ | _ | _ | _ | _ | _ | j
 . omega
 all_goals first | omega | skip
 all_goals
   refine ⟨by decide,?_,by decide,by decide,by decide⟩;intro i hi;rcases i with _ | _ | _ | _ | i
   all_goals first | decide | (exfalso;simp[ED,HK] at hi;done) | (exfalso;simp[ED,HK] at hi;omega)
theorem KE:(HK.flatMap fmC).length=21:=by decide
theorem Ajp(num:Int)(fs:List (List UInt8))(hfs:fs.length<=10000000):BZ prog 62 [.agg [.p (.int .i64 num),.p (.sl (CJ fs))]] [] λ h r=>h=[]/\r= .Dg [(QM num fs).1.d,.p (.int .i64 (QM num fs).2)]:=by
 refine B1 func62 rfl Am7 (by simp[Tryz.f62]) ?_;cases fs with
 | nil=>
   simp only[go_sem,B6];refine BY ?_;simp only[go_sem];try simp[QM,OM,Dc.d,CJ,BX]
 | cons w rest=>
   have Dl:¬((rest.length+1:Nat):Int)=0:=by omega
   simp only[go_sem,B6,Dl];refine Cq TY ?_;simp only[go_sem,KE];refine Azh (Wk.seal (t:=4) (id:=4) (xs:=HK.flatMap fmC) (env1:=[(3,.p (.int .i64 0)),(2,.ptr 2 0),(1,.ptr 1 0)]) (hp1:=[(2,.box [.p (.int .i64 0),.p (.int .i64 0),.cl [],.cl []]),(1,.box [.p (.int .i64 num),.p (.sl (CJ (w::rest)))])]) rfl rfl rfl
     (by simp[Le,UM,C8,get,Ew,DT,Gy,D.ids,Da,AO.ids,base])) ?_
   simp only[go_sem];refine o6 (L:=1) rfl Asf Asg rfl rfl (by decide) KE (by decide) ?_;simp only[go_sem];refine Cq (Aev HK.tail (by decide) 107 (λ f=>decide (f.word=w)) _ _ (λ x=>Ae5 x num w rest)) ?_;obtain ⟨j,hj,hjw⟩:=Ad4 w;have Xu:IntKind.i64.wrap (FC (λ f:Fm=>decide (f.word=w)) 0 HK.tail+1)=(j:Int):=by
     have h1:FC (λ f:Fm=>decide (f.word=w)) 0 HK.tail+1=(j:Int):=hjw;rw[h1,B3]<;>omega
   by_cases hj0:(j:Int)=0
   . simp only[go_sem,Xu,hj0];refine BY ?_;simp only[go_sem];simp[QM,hjw,hj0,OM,Dc.d,CJ,BX]
   have hjp:(0:Int)<=j/\(j:Int)<7:=by omega
   have hfc:=OB j hj;have OW:0+3<=(List.drop (j*3) (HK.flatMap fmC)).length:=by rw[List.length_drop,KE];omega
   have TU:List.drop 1 (List.take (rest.length+1) (CJ (w::rest)))=CJ rest:=by
     rw[AL (by simp[CJ])];rfl
   have Af3:LI 1 (CJ (w::rest)):=by simp[LI,CJ]
   have Aqx:(1:Int)<=((rest.length+1:Nat):Int):=by omega
   simp only[go_sem,Xu,hj0];refine Dm [(2,.box [.p (.int .i64 0),.p (.int .i64 0),.cl [],.cl []]),(1,.box [.p (.int .i64 num),.p (.sl (CJ (w::rest)))])] mixed (p:=[(0,0),(1,0),(2,0),(3,0),(4,0),(5,0),(6,1),(7,2),(8,0)]) (by kernel_rfl) (by simp[C8,get]) ?_;obtain ⟨LB,Mp,p8,hs4,hs5⟩:=TZ j hj (by omega);have h2b:(j:Int)=2->(CG j).2=0:=by intro h;rw[h];rfl
   have NG:QM num (w::rest)=if (rest.length:Int)<(CG j).1+(CG j).2∨((CG j).1+(CG j).2<(rest.length:Int)/\(j:Int)≠2) then (OM,5) else rd (rest.length - (CG j).2.toNat) rest ⟨j,num,[],[]⟩:=by
     simp only[QM,hjw,hj0,A9]
   rw[NG];generalize hfe:(ED j).fields=sig at*;generalize hfo:(ED j).more=more at*;generalize hA:(CG j).1=a at*;generalize hB:(CG j).2=b at*;by_cases hl1:(rest.length:Int)<(sig.length:Int)
   . simp only[go_sem,Ab,hfc,OW,B6,TU,Af3,hjp,Aqx,BP,hl1];refine BY ?_;simp only[go_sem];rw[if_pos (.inl (by omega))];simp[OM,Dc.d,CJ,BX]
   by_cases Sp:(sig.length:Int)<(rest.length:Int)/\more=false
   . simp only[go_sem,Ab,hfc,OW,B6,TU,Af3,hjp,Aqx,BP,hl1,Sp];refine BY ?_;simp only[go_sem];rw[if_pos (.inr ⟨by omega,by have:=Sp.2;rw[p8] at this;simpa using this⟩)];simp[OM,Dc.d,CJ,BX]
   have hl3:(sig.length:Int)<(rest.length:Int)->(j:Int)=2/\more=true:=by
     intro h;cases more
     . exact (Sp ⟨h,rfl⟩).elim
     . exact ⟨by simpa using p8.symm,rfl⟩
   have hgo:(if (rest.length:Int)<a+b∨(a+b<(rest.length:Int)/\(j:Int)≠2) then (OM,(5:Int)) else rd (rest.length - b.toNat) rest ⟨j,num,[],[]⟩)=rd (rest.length - b.toNat) rest ⟨j,num,[],[]⟩:=by
     rw[if_neg];omega
   rw[hgo];generalize hK:rest.length - b.toNat=K;by_cases hl5:(sig.length:Int)<(rest.length:Int);all_goals
     first
       | simp only[go_sem,Ab,hfc,OW,B6,TU,Af3,hjp,Aqx,BP,hl1,hl5,(hl3 hl5).2]
       | simp only[go_sem,Ab,hfc,OW,B6,TU,Af3,hjp,Aqx,BP,hl1,hl5]
     refine B5 (λ q:Nat×List (List UInt8)×List Int=>⟨[(2,.ptr 2 0),(6,.ptr 6 0),(8,.ptr 8 0),(56,.p (.sl (CJ rest))),(57,.p (.int .i64 (rest.length:Nat))),(58,.p (.int .i64 (q.1:Nat)))],
         [(2,.box [.p (.int .i64 0),.p (.int .i64 0),.cl [],.cl []]),(6,.box [.p (.str (ED j).word),.p (.str sig),.p (.bool more)]),
          (8,.box [.p (.int .i64 j),.p (.int .i64 num),.ref 97 0 q.2.1.length q.2.1.length,.ref 87 0 q.2.2.length q.2.2.length]),(97,.arr 9 1 (CJ q.2.1)),(87,.arr 3 1 (BX q.2.2))],101⟩)
       (λ q=>q.1<=rest.length/\q.2.1.length<=q.1/\q.2.2.length<=q.1/\rd (K - q.1) (rest.drop q.1) ⟨j,num,q.2.1,q.2.2⟩=rd K rest ⟨j,num,[],[]⟩)
       (λ q=>rest.length - q.1) (0,[],[]) ⟨AE _,by simp,by simp,by simp⟩ ?_ ?_
     . refine (Wk.Hl (id:=8) (j:=2) (q:=97) (sz:=1) 9 rfl rfl rfl (by decide)).trans ((Wk.Hl (id:=8) (j:=3) (q:=87) (sz:=1) 3 rfl rfl rfl (by decide)).trans ?_);first
         | (refine Wk.forget ?_;simp[ZF,CJ,BX];done)
         | (refine Wk.forget ?_;simp[ZF,CJ,BX,(hl3 hl5).2];done)
     rintro ⟨i,ns,ks⟩ n ⟨hi,hn1,hn2,he⟩ ih;simp only at hi hn1 hn2 he;simp only[go_sem];refine Cx (λ h2=>?_) (λ h2=>?_)
     . have Ct:i<rest.length:=by simp at h2;omega
       have hw:=Cg i (by simp at hfs;omega);have Aax:rest.drop i=rest.getD i []::rest.drop (i+1):=by rw[AX Ct];simp[List.getD,Ct]
       rw[Aax] at he;simp only[Ar] at hfs;have Q7:(i:Int)<(rest.length:Int):=by omega
       have Dx:(0:Int)<=(i:Int):=by omega
       generalize hs:rest.getD i []=s at he;have number:K - i=0->(Pl s).2=true->rd (K - (i+1)) (rest.drop (i+1)) ⟨j,num,ns,ks++[(Pl s).1]⟩=rd K rest ⟨j,num,[],[]⟩:=by
         intro h0 h1;rw[<-he,h0];simp only[rd,h1,AM];congr 1;omega
       have Apw:K - i=0->(Pl s).2=false->rd K rest ⟨j,num,[],[]⟩=(OM,7):=by
         intro h0 h1;rw[<-he,h0];simp only[rd,h1];rfl
       have name:i<K->CL s=true->rd (K - (i+1)) (rest.drop (i+1)) ⟨j,num,ns++[s],ks⟩=rd K rest ⟨j,num,[],[]⟩:=by
         intro h0 h1;rw[<-he,show K - i=(K - (i+1))+1 by omega];simp only[rd,h1,AM]
       have Asl:i<K->CL s=false->rd K rest ⟨j,num,[],[]⟩=(OM,6):=by
         intro h0 h1;rw[<-he,show K - i=(K - (i+1))+1 by omega];simp only[rd,h1];rfl
       by_cases hsi:(i:Int)<(sig.length:Int)
       . by_cases Ql:((sig.getD i 0).toNat:Int)=35
         . have hK0:K - i=0:=by have:=(Mp i (by omega)).1 Ql;omega
           simp only[go_sem,Ab,B6,D2 rest i Ct,hs,hsi,Ql,Q7,Dx];refine Cq (Aa4 _) ?_;cases hnv:(Pl s).2
           . simp only[go_sem,hnv];refine BY ?_;simp only[go_sem];rw[Apw hK0 hnv];simp[OM,Dc.d,CJ,BX]
           . simp only[go_sem,hnv,hw,BW];refine ⟨⟨EB _ _ rfl,by omega⟩,?_⟩;refine ih (i+1,ns,ks++[(Pl s).1]) _ ⟨Ct,by simp only;omega,by simp only[Au,Ar,Az];omega,number hK0 hnv⟩ (by simp only;omega) ?_
             (refine Wk.forget ?_;simp[ZF,D5,BW];done)
         . have hK0:i<K:=by have:=(Mp i (by omega)).2;omega
           simp only[go_sem,Ab,B6,D2 rest i Ct,hs,hsi,Ql,Q7,Dx];refine Cq (Pp _) ?_;cases hnv:CL s
           . simp only[go_sem,hnv];refine BY ?_;simp only[go_sem];rw[Asl hK0 hnv];simp[OM,Dc.d,CJ,BX]
           . simp only[go_sem,hnv,hw,B6];refine ⟨⟨EB _ _ rfl,by omega⟩,?_⟩;refine ih (i+1,ns++[s],ks) _ ⟨Ct,by simp only[Au,Ar,Az];omega,by simp only;omega,name hK0 hnv⟩ (by simp only;omega) ?_
             (refine Wk.forget ?_;simp[ZF,E8,B6];done)
       . have hK0:i<K:=by
           have hl6:(sig.length:Int)<(rest.length:Int):=by omega
           have:=h2b (hl3 hl6).1;omega
         simp only[go_sem,Ab,B6,D2 rest i Ct,hs,hsi,Q7,Dx];refine Cq (Pp _) ?_;cases hnv:CL s
         . simp only[go_sem,hnv];refine BY ?_;simp only[go_sem];rw[Asl hK0 hnv];simp[OM,Dc.d,CJ,BX]
         . simp only[go_sem,hnv,hw,B6];refine ⟨⟨EB _ _ rfl,by omega⟩,?_⟩;refine ih (i+1,ns++[s],ks) _ ⟨Ct,by simp only[Au,Ar,Az];omega,by simp only;omega,name hK0 hnv⟩ (by simp only;omega) ?_
           (refine Wk.forget ?_;simp[ZF,E8,B6];done)
     . simp only[go_sem];have Aau:i=rest.length:=by simp at h2;omega
       subst Aau;refine BY ?_;simp only[go_sem];rw[BA] at he;simp only[rd] at he;rw[<-he];(try rw[KG _ _ (Ai _)]);(try rw[G8 _ _ (Ai _)]);simp[Dc.d,B6,BW]
def CX(d:Dc):Bool:=
 decide (1<=d.word/\d.word<=6)&&(decide ((d.B7.length:Int)=(CG d.word).2)&&((decide ((d.names.length:Int)=(CG d.word).1)||(decide ((CG d.word).1<(d.names.length:Int))&&decide (d.word=2)))&&
   (d.names.all CL&&d.B7.all λ n=>!(decide (n< -9999)||decide (9999<n)))))
theorem PT{α:Type}(p:α->Bool):∀(l:List α) (k:Nat),0<=FC p k l↔l.any p=true
 | [],k=>by simp[FC]
 | x::r,k=>by
   simp only[FC,List.any_cons];by_cases h:p x=true
   . rw[if_pos h];simp[h]
   . rw[if_neg h,PT p r (k+1)];simp[h]
theorem Afl{α:Type}(p:α->Bool)(l:List α)(k:Nat):decide (0<=FC p k l)=l.any p:=by
 rw[Bp,Aq,PT]
theorem Ab1(j:Nat)(h:j<7):∀b∈(ED j).fields,b.toNat<128:=by
 rcases j with _ | _ | _ | _ | _ | _ | _ | j
 all_goals first | decide | omega
theorem Yv(d:Dc)(hd:d.names.length<=10000000/\d.B7.length<=10000000):BZ prog 91 [d.d] [] λ h r=>h=[]/\r= .p (.bool (CX d)):=by
 obtain ⟨word,line,names,B7⟩:=d;simp only at hd;refine B1 func91 rfl Alq (by simp[Tryz.f91]) ?_;by_cases h1:word<1
 . have hv:CX ⟨word,line,names,B7⟩=false:=by simp[CX];intro h;omega
   simp only[go_sem,Dc.d,h1,hv]
 by_cases h2:6<word
 . have hv:CX ⟨word,line,names,B7⟩=false:=by simp[CX];intro h;omega
   simp only[go_sem,Dc.d,h1,h2,hv]
 obtain ⟨j,rfl⟩:∃j:Nat,word=(j:Int):=⟨word.toNat,by omega⟩;have hj:j<7:=by omega
 have hfc:=OB j hj;have OW:j*3+3<=(HK.flatMap fmC).length:=by rw[KE];omega
 obtain ⟨LB,Mp,p8,hs4,hs5⟩:=TZ j hj (by omega);have Bc8:=Ab1 j hj;have hsl:(ED j).fields.length<=4:=by
   rcases j with _ | _ | _ | _ | _ | _ | _ | j
   all_goals first | decide | omega
 have hj0:(0:Int)<=(j:Int)/\(j:Int)<7:=by omega
 have hdt:List.take 3 (List.drop (j*3) (List.map D.p (HK.flatMap fmC)))=[.p (.str (ED j).word),.p (.str (ED j).fields),.p (.bool (ED j).more)]:=by
   rw[<-List.map_drop,<-Bz,hfc];rfl
 simp only[go_sem,Dc.d,h1,h2];refine CH mixed (p:=[(1,0),(2,0),(4,1),(0,2),(3,0),(5,2),(6,0),(7,0)]) (by kernel_rfl) (by simp[C8,get]) ?_;simp only[go_sem];refine Gq TY ?_;have hv:CX ⟨j,line,names,B7⟩=(decide ((B7.length:Int)=(CG j).2)&&((decide ((names.length:Int)=(CG j).1)||(decide ((CG j).1<(names.length:Int))&&decide ((j:Int)=2)))&&
   (names.all CL&&B7.all λ n=>!(decide (n< -9999)||decide (9999<n))))):=by
   have:decide ((1:Int)<=j/\(j:Int)<=6)=true:=by simp;omega
   simp only[CX,this,Bl]
 rw[hv,<-p8];clear hv p8;generalize hfe:(ED j).fields=sig at*;generalize hfo:(ED j).more=more at*;generalize hA:(CG j).1=a at*;generalize hB:(CG j).2=b at*;simp only[go_sem,Ab,OW,hdt,hj0];refine Aow rfl rfl ti9 rfl rfl ?_;simp only[go_sem];refine B5 (λ i=>⟨[(1,.ptr 1 0),(3,.ptr 3 0),(22,.ptr 22 0),(4,.p (.int .i64 (min i a.toNat:Nat))),(5,.p (.int .i64 (i - a.toNat:Nat)))],
     [(1,.box [.p (.int .i64 j),.p (.int .i64 line),.p (.sl (CJ names)),.p (.sl (BX B7))]),(3,.box [.p (.str (ED j).word),.p (.str sig),.p (.bool more)]),(22,.iter sig i)],67⟩)
   (λ i=>i<=sig.length) (λ i=>sig.length - i) 0 (AE _) (Wk.forget (by simp[ZF,Nat.zero_min,Nat.zero_sub])) ?_
 rintro i n hi ih;simp only[go_sem];refine Asa rfl rfl rfl Bc8 (λ Ct=>?_) (λ hge=>?_)
 . have Ql:=Mp i Ct;have It:sig.getD i 0=sig[i]:=by simp[List.getD,Ct]
   rw[It] at Ql;simp only[go_sem];by_cases hc:(sig[i].toNat:Int)=35
   . have hai:=Ql.1 hc;have hw:IntKind.i64.wrap (((i - a.toNat:Nat):Int)+1)=((i+1 - a.toNat:Nat):Int):=by rw[B3]<;>omega
     simp only[go_sem,hc,hw];refine ih (i+1) _ Ct (by omega) ?_;have e1:min (i+1) a.toNat=min i a.toNat:=by omega
     rw[e1]
     (refine Wk.forget ?_;simp[ZF];done)
   . have hai:¬a<=(i:Int):=λ h=>hc (Ql.2 h);have hw:IntKind.i64.wrap (((min i a.toNat:Nat):Int)+1)=((min (i+1) a.toNat:Nat):Int):=by rw[B3]<;>omega
     simp only[go_sem,hc,hw];refine ih (i+1) _ Ct (by omega) ?_;have e1:i+1 - a.toNat=i - a.toNat:=by omega
     rw[e1]
     (refine Wk.forget ?_;simp[ZF];done)
 . have Q7:i=sig.length:=by omega
   have e4:((min i a.toNat:Nat):Int)=a:=by omega
   have e5:((i - a.toNat:Nat):Int)=b:=by omega
   simp only[go_sem,BW,B6,e4,e5];clear ih;have k1:=XU names (by omega) 126 (λ x=>!CL x) Adb;have k2:=XV B7 (by omega) 128 (λ n=>decide (n< -9999)||decide (9999<n)) Ada;rw[Afl] at k1 k2;cases c1:decide ((B7.length:Int)=b)
   . simp only[go_sem,c1];try simp
   cases c2:decide ((names.length:Int)=a)
   . cases c3:decide (a<(names.length:Int))
     . simp only[go_sem,c1,BW,B6,e4,e5,c2,c3];try simp
     cases more
     . simp only[go_sem,c1,BW,B6,e4,e5,c2,c3];try simp
     simp only[go_sem,c1,BW,B6,e4,e5,c2,c3];refine Cq k1 ?_;cases c4:names.any λ x=>!CL x
     . have r9:names.all CL=true:=by
         rw[List.all_eq_not_any_not,c4];rfl
       simp only[go_sem,c4];refine Cq k2 ?_;simp only[go_sem];rw[r9,List.all_eq_not_any_not];try simp
     . have r9:names.all CL=false:=by
         rw[List.all_eq_not_any_not,c4];rfl
       simp only[go_sem,c4];rw[r9];try simp
   . simp only[go_sem,c1,BW,B6,e4,e5,c2];refine Cq k1 ?_;cases c4:names.any λ x=>!CL x
     . have r9:names.all CL=true:=by
         rw[List.all_eq_not_any_not,c4];rfl
       simp only[go_sem,c4];refine Cq k2 ?_;simp only[go_sem];rw[r9,List.all_eq_not_any_not];try simp
     . have r9:names.all CL=false:=by
         rw[List.all_eq_not_any_not,c4];rfl
       simp only[go_sem,c4];rw[r9];try simp
def Cy.DZ:Cy->List (List UInt8)->Int×Cy
 | b,x::y::r=>if (b.EW x y).1=0 then Cy.DZ (b.EW x y).2 (y::r) else b.EW x y
 | b,_=>(0,b)
def Cy.DH(b:Cy)(d:Dc):Int×Cy:=
 if CX d=false then (20,b) else if decide (d.word=1)=true then b.Ez d else if decide (d.word=2)=true then b.DZ d.names else
   if decide (d.word=5)=true then b.Du d else if decide (d.word=6)=true then b.DE d else b.EC d
structure BI(b:Cy):Prop where
 nb:b.bl.length<=24
 nn:b.nx.length=b.bl.length
 mb:∀x i,DN b.mb x=some i->∃n:Nat,i=(n:Int)/\n<b.bl.length
 ms:∀x i,DN b.ms x=some i->∃n:Nat,i=(n:Int)/\n<b.sp.length
 row:∀i,(b.nx.getD i []).length<=4
 ns:b.sp.length<=6
 nba:b.ba.length=b.sp.length
 sl:0<=b.sl/\b.sl<=4*b.sp.length
 np:b.pl.length<=8
 bas:∀x∈b.ba,0<=x/\x<=24
 sps:∀s∈b.sp,1<=s.Co/\s.Co<=4
 pls:∀p∈b.pl,(∃n:Nat,p.1=(n:Int)/\n<b.sp.length)/\1<=p.2/\p.2<=4
theorem Nj(p:List UInt8×Int)(r:List (List UInt8×Int))(x:List UInt8):DN (p::r) x=if p.1=x then some p.2 else DN r x:=by
 unfold DN;rw[List.find?_cons];by_cases h:p.1=x
 . simp[h]
 . rw[if_neg h,beq_eq_false_iff_ne.2 h]
theorem Ady(p:List UInt8×Int)(r:List (List UInt8×Int))(k:List UInt8)(v:Int):HS (p::r) k v=if p.1=k then (k,v)::r else p::HS r k v:=rfl
theorem Ni(m:List (List UInt8×Int))(k:List UInt8)(v:Int)(x:List UInt8):DN (HS m k v) x=if x=k then some v else DN m x:=by
 induction m with
 | nil=>
   have:HS [] k v=[(k,v)]:=rfl;rw[this,Nj];by_cases h:x=k
   . rw[if_pos h,if_pos h.symm]
   . rw[if_neg h,if_neg (Bm h)]
 | cons p r ih=>
   rw[Ady,Nj];by_cases h:p.1=k
   . rw[if_pos h,Nj];by_cases h2:x=k
     . rw[if_pos h2,if_pos h2.symm]
     . rw[if_neg h2,if_neg (Bm h2),if_neg (λ e=>h2 (by rw[<-e,<-h]))]
   . rw[if_neg h,Nj,ih];by_cases h2:p.1=x
     . rw[if_pos h2,if_pos h2,if_neg (λ e=>h (by rw[h2,e]))]
     . rw[if_neg h2,if_neg h2]
theorem BI.block{b:Cy}(h:BI b)(d:Dc):BI (b.Ez d).2:=by
 unfold Cy.Ez;split
 . exact h
 . split
   . exact h
   . rename_i h1 h2;have hl:b.bl.length<24:=by have:=h.nb;omega
     refine ⟨by simp;omega,by simp[h.nn],λ x i hx=>?_,h.ms,λ i=>?_,h.ns,h.nba,h.sl,h.np,h.bas,h.sps,h.pls⟩
     . simp only[Ni] at hx;split at hx
       . cases hx;exact ⟨_,rfl,by simp⟩
       . obtain ⟨n,h3,h4⟩:=h.mb x i hx;exact ⟨n,h3,by simp;omega⟩
     . simp only[List.getD,AN];split
       . have:=h.row i;simpa [List.getD] using this
       . rcases hj:i - b.nx.length with _ | j<;>simp
theorem BI.lane{b:Cy}(h:BI b)(x y:List UInt8):BI (b.EW x y).2:=by
 unfold Cy.EW;split
 . rename_i i j h1 h2;split
   . exact h
   . split
     . exact h
     . split
       . exact h
       . rename_i h3 h4 h5;obtain ⟨n,rfl,hn⟩:=h.mb x i h1;refine ⟨h.nb,by simp[h.nn],h.mb,h.ms,λ k=>?_,h.ns,h.nba,h.sl,h.np,h.bas,h.sps,h.pls⟩;simp only[Ab] at h5 ⊢;have hr:=h.row n;have hrk:=h.row k;simp only[List.getD,BR];split
         . rename_i e;subst e;split
           . simp only[AY,Au,Ar,Az];simp only[List.getD] at h5 hr;omega
           . simp
         . simpa [List.getD] using hrk
 . exact h
theorem BI.Y8:∀{l:List (List UInt8)} {b:Cy},BI b->BI (b.DZ l).2
 | [],b,h=>h
 | [x],b,h=>h
 | x::y::r,b,h=>by
   simp only[Cy.DZ];split
   . exact BI.Y8 (h.lane x y)
   . exact h.lane x y
theorem BI.Atj{b:Cy}(h:BI b)(d:Dc):BI (b.EC d).2:=by
 unfold Cy.EC;split
 . exact h
 . split
   . split
     . exact h
     . split
       . exact h
       . split
         . exact h
         . rename_i h1 h2 h3;simp only[Aq] at h1 h2;have h4:=h.ns;have h5:=h.sl;refine ⟨h.nb,h.nn,h.mb,λ x i hx=>?_,h.row,by simp;omega,by simp[h.nba],by simp only[Au,Ar,Az];omega,h.np,λ x hx=>?_,λ s hs=>?_,λ p hp=>?_⟩;simp only[Ni] at hx;split at hx
           . cases hx;exact ⟨_,rfl,by simp⟩
           . obtain ⟨n,h6,h7⟩:=h.ms x i hx;exact ⟨n,h6,by simp;omega⟩
           . rcases Av.1 hx with hx | hx
             . exact h.bas x hx
             . simp only[Aw] at hx;subst hx;omega
           . rcases Av.1 hs with hs | hs
             . exact h.sps s hs
             . simp only[Aw] at hs;subst hs;simp only;omega
           . obtain ⟨⟨n,h6,h7⟩,h8⟩:=h.pls p hp;exact ⟨⟨n,h6,by simp;omega⟩,h8⟩
   . exact h
theorem BI.Aj8{b:Cy}(h:BI b)(d:Dc):BI (b.Du d).2:=by
 unfold Cy.Du;split
 . exact h
 . rename_i i hi;split
   . exact h
   split
   . exact h
   split
   . exact h
   split
   . exact h
   split
   . exact h
   rename_i h1 h2 h3 h4 h5;obtain ⟨n,rfl,hn⟩:=h.ms _ _ hi;simp only[Aq,Ab] at h2 h3;have hs:=h.sps (b.sp.getD n Cm) (CK b.sp n Cm hn);refine ⟨h.nb,h.nn,h.mb,h.ms,h.row,h.ns,h.nba,h.sl,?_,h.bas,h.sps,λ p hp=>?_⟩
   . have:=h.np;simp;omega
   . rcases Av.1 hp with hp | hp
     . exact h.pls p hp
     . simp only[Aw] at hp;subst hp;exact ⟨⟨n,rfl,hn⟩,by omega,by omega⟩
theorem BI.config{b:Cy}(h:BI b)(d:Dc):BI (b.DE d).2:=by
 unfold Cy.DE
 repeat' split
 all_goals first | exact h | skip
 exact ⟨h.nb,h.nn,h.mb,h.ms,h.row,h.ns,h.nba,h.sl,h.np,h.bas,h.sps,h.pls⟩
theorem BI.add{b:Cy}(h:BI b)(d:Dc):BI (b.DH d).2:=by
 unfold Cy.DH
 repeat' split
 . exact h
 . exact h.block d
 . exact h.Y8
 . exact h.Aj8 d
 . exact h.config d
 . exact h.Atj d
theorem LX{d:Dc}(h:CX d=true):(1<=d.word/\d.word<=6)/\(d.B7.length:Int)=(CG d.word).2/\(CG d.word).1<=(d.names.length:Int):=by
 simp only[CX,Ao,Aq,BT] at h;obtain ⟨h1,h2,h3,_⟩:=h;exact ⟨h1,h2,by omega⟩
theorem Avl(b:Cy)(k:Nat)(d:Dc)(h:BI b)(hd:d.names.length<=10000000/\d.B7.length<=10000000):
   BZ prog 63 [.ptr 1000000 0,d.d] (b.h k) λ h r=>∃k',h=(b.DH d).2.h k'/\r= .p (.int .i64 (b.DH d).1):=by
 have v:=Yv d hd;have v1:=λ h1 h2=>Ao6 b k d h1 h2 h.nb (by rw[h.nn];exact h.nb);have v5:=λ h1 h2=>Aj7 b k d h1 h2 h.np h.ms;have v6:=Ahh b k d;have v3:=λ h1 h2=>Apc b k d h1 h2 h.ns (by rw[h.nba];exact h.ns) ⟨h.sl.1,by have:=h.sl.2;have:=h.ns;omega⟩;have hs:=@LX d;unfold Dc.d at v v1 v5 v6 v3 ⊢;refine B1 func63 rfl Am6 (by simp[Tryz.f63]) ?_;rw[Cy.FL b k];simp only[go_sem];refine Cq v ?_;cases c0:CX d
 . have hv:b.DH d=(20,b):=by unfold Cy.DH;rw[if_pos c0]
   simp only[go_sem,c0,hv];first | exact ⟨k,rfl,rfl⟩ | exact ⟨k,rfl⟩
 have hs:=hs c0;cases c1:decide (d.word=1);rotate_left
 . have e1:d.word=1:=Ad c1;rw[e1] at hs;simp[CG] at hs;simp only[go_sem,c0,c1];refine DF (v1 (by omega) (by omega)) ?_;rintro h' r ⟨k',rfl,rfl⟩;have hv:b.DH d=b.Ez d:=by unfold Cy.DH;simp only[c0,c1,BM,A9,AM]
   rw[hv];simp only[go_sem,Cy.FL (b.Ez d).2 k'];first | exact ⟨k',rfl,rfl⟩ | exact ⟨k',rfl⟩
 cases c2:decide (d.word=2);rotate_left
 . have hv:b.DH d=b.DZ d.names:=by unfold Cy.DH;simp only[c0,c1,c2,BM,AJ,A9,AM]
   rw[hv];have e1:d.word=2:=Ad c2;rw[e1] at hs;simp[CG] at hs;simp only[go_sem,c0,c1,c2];refine B5 (λ q:Nat×Cy×Nat=>⟨[(0,.ptr 1000000 0),(3,.ptr 3 0),(4,.p (.int .i64 0)),(5,.p (.int .i64 (q.1:Nat)))],(3,.box [.p (.int .i64 d.word),.p (.int .i64 d.line),.p (.sl (CJ d.names)),.p (.sl (BX d.B7))])::q.2.1.h q.2.2,55⟩)
     (λ q=>1<=q.1/\q.1<=d.names.length/\BI q.2.1/\b.DZ d.names=q.2.1.DZ (d.names.drop (q.1 - 1))) (λ q=>d.names.length - q.1) (1,b,k) ⟨Ai _,by omega,h,by simp⟩ (Wk.forget (by simp[ZF,Cy.FL])) ?_
   rintro ⟨i,b',k'⟩ n ⟨NJ,hi,hB,he⟩ ih;dsimp only at NJ hi hB he;simp only[go_sem,Cy.FL b' k',B6];refine Cx (λ h2=>?_) (λ h2=>?_)
   . have Ct:i<d.names.length:=by simp at h2;omega
     have hw:=Cg i (by omega);have hp:IntKind.i64.wrap ((i:Int) - 1)=((i - 1:Nat):Int):=by rw[IntKind.wrap_i64];omega
     have g1:=D2 d.names (i - 1) (by omega);have g2:=D2 d.names i Ct;have r1:(0:Int)<=((i - 1:Nat):Int)/\((i - 1:Nat):Int)<(d.names.length:Int):=by omega
     have r2:(0:Int)<=(i:Int)/\(i:Int)<(d.names.length:Int):=by omega
     have TU:d.names.drop (i - 1)=d.names.getD (i - 1) []::d.names.getD i []::d.names.drop (i+1):=by
       have a1:d.names.drop (i - 1)=d.names[i - 1]::d.names.drop (i - 1+1):=AX (by omega);have a2:d.names.drop i=d.names[i]::d.names.drop (i+1):=AX Ct;rw[a1,show i - 1+1=i by omega,a2];simp[List.getD,Ct,show i - 1<d.names.length by omega]
     have Bc4:d.names.drop i=d.names.getD i []::d.names.drop (i+1):=by
       rw[AX Ct];simp[List.getD,Ct]
     rw[TU] at he;simp only[go_sem,Cy.FL b' k',B6];refine Dm [(3,.box [.p (.int .i64 d.word),.p (.int .i64 d.line),.p (.sl (CJ d.names)),.p (.sl (BX d.B7))])] mixed (p:=[(0,0),(1,0),(2,0),(3,0),(4,0),(5,0),(6,0),(7,0),(8,0),(9,0),(10,0),(11,0),(12,2),(13,0)]) (by kernel_rfl) (by simp[C8,get]) ?_;simp only[go_sem,Cy.FL b' k',B6,hp,r1,r2,Ab,g1,g2];refine o5 (Aqa b' k' (d.names.getD (i - 1) []) (d.names.getD i []) (by rw[hB.nn];exact hB.mb) (λ i=>by have:=hB.row i;omega)) ?_;rintro h' r ⟨k2,rfl,rfl⟩;have hBl:=hB.lane (d.names.getD (i - 1) []) (d.names.getD i []);generalize hL:b'.EW (d.names.getD (i - 1) []) (d.names.getD i [])=L at*;obtain ⟨e,b2⟩:=L;simp only at hBl;simp only[Cy.DZ,hL] at he;cases c3:decide (e=0)
     . have c3':¬e=0:=Ae c3;rw[if_neg c3'] at he;rw[he];simp only[go_sem,Cy.FL b2 k2,c3];first | exact ⟨k2,rfl,rfl⟩ | exact ⟨k2,rfl⟩
     . have c3':e=0:=Ad c3;rw[if_pos c3'] at he;simp only[go_sem,Cy.FL b2 k2,c3,hw];refine ih (i+1,b2,k2) _ ⟨by omega,Ct,hBl,?_⟩ (by simp;omega) ?_
       . simp only[Nat.add_sub_cancel];rw[Bc4];exact he
       . (refine Wk.forget ?_;simp[ZF,Cy.FL];done)
   . have:i=d.names.length:=by simp at h2;omega
     simp only[go_sem,Cy.FL b' k'];have Jt:d.names.drop (i - 1)=[d.names.getD (i - 1) []]:=by
       rw[AX (by omega),BG (by omega)];simp[List.getD,show i - 1<d.names.length by omega]
     rw[Jt] at he;rw[he];first | exact ⟨k',rfl,rfl⟩ | exact ⟨k',rfl⟩
 cases c5:decide (d.word=5);rotate_left
 . have e1:d.word=5:=Ad c5;rw[e1] at hs;simp[CG] at hs;simp only[go_sem,c0,c1,c2,c5];refine DF (v5 (by omega) (by omega)) ?_;rintro h' r ⟨k',rfl,rfl⟩;have hv:b.DH d=b.Du d:=by unfold Cy.DH;simp only[c0,c1,c2,c5,BM,AJ,A9,AM]
   rw[hv];simp only[go_sem,Cy.FL (b.Du d).2 k'];first | exact ⟨k',rfl,rfl⟩ | exact ⟨k',rfl⟩
 cases c6:decide (d.word=6);rotate_left
 . have e1:d.word=6:=Ad c6;rw[e1] at hs;simp[CG] at hs;simp only[go_sem,c0,c1,c2,c5,c6];refine DF (v6 (by omega)) ?_;rintro h' r ⟨k',rfl,rfl⟩;have hv:b.DH d=b.DE d:=by unfold Cy.DH;simp only[c0,c1,c2,c5,c6,BM,AJ,A9,AM]
   rw[hv];simp only[go_sem,Cy.FL (b.DE d).2 k'];first | exact ⟨k',rfl,rfl⟩ | exact ⟨k',rfl⟩
 . have n1:¬d.word=1:=Ae c1;have n2:¬d.word=2:=Ae c2;have n5:¬d.word=5:=Ae c5;have n6:¬d.word=6:=Ae c6;have e1:d.word=3∨d.word=4:=by omega
   simp only[CG,n1,n2,e1,A9,AM] at hs;simp only[go_sem,c0,c1,c2,c5,c6];refine DF (v3 (by omega) (by omega)) ?_;rintro h' r ⟨k',rfl,rfl⟩;have hv:b.DH d=b.EC d:=by unfold Cy.DH;simp only[c0,c1,c2,c5,c6,BM,AJ,A9,AM]
   rw[hv];simp only[go_sem,Cy.FL (b.EC d).2 k'];first | exact ⟨k',rfl,rfl⟩ | exact ⟨k',rfl⟩
def parseV:List Ln->List Dc->List Dc×Int×Int
 | [],acc=>(acc,0,0)
 | x::r,acc=>if (QM x.num x.fs).2=0 then parseV r (acc++[(QM x.num x.fs).1]) else ([],x.num,(QM x.num x.fs).2)
def Aa3(r:List Dc×Int×Int):D:= .Dg [.p (.sl (EV r.1)),.p (.int .i64 r.2.1),.p (.int .i64 r.2.2)]
theorem Ae4(l:List Ln)(hl:l.length<=10000000)(hf:∀x∈l,x.fs.length<=10000000):BZ prog 30 [.p (.sl (GA l))] [] λ h r=>h=[]/\r=Aa3 (parseV l []):=by
 refine B1 func30 rfl Amt (by simp[Tryz.f30]) ?_;simp only[go_sem,DB];refine B5 (λ q:Nat×List Dc=>⟨[(10,.p (.sl (GA l))),(11,.p (.int .i64 (l.length:Nat))),(12,.p (.int .i64 (q.1:Nat))),(5,.ref 29 0 q.2.length q.2.length)],[(29,.arr 82 4 (EV q.2))],32⟩)
   (λ q=>q.1<=l.length/\q.2.length<=q.1/\parseV (l.drop q.1) q.2=parseV l []) (λ q=>l.length - q.1) (0,[]) ⟨AE _,by simp,by simp⟩ ((Wk.nil (t:=5) (q:=29) (sz:=4) 82 rfl rfl (by decide)).trans (Wk.forget (by simp[ZF,EV]))) ?_
 rintro ⟨i,acc⟩ n ⟨hi,hn,he⟩ ih;simp only at hi hn he;simp only[go_sem];refine Cx (λ h2=>?_) (λ h2=>?_)
 . have Ct:i<l.length:=by simp at h2;omega
   have hw:=Cg i (by omega);have hb:=hf _ (CK l i ln0 Ct);rw[DO l i ln0 Ct] at he;simp only[go_sem,Ab,DB,Ug l i Ct];generalize l.getD i ln0=x at*;refine ⟨by omega,DF (Ajp x.num x.fs hb) ?_⟩;rintro h' r ⟨rfl,rfl⟩;by_cases hz:(QM x.num x.fs).2=0
   . simp only[go_sem,Dc.d,hz,hw,FD];refine ⟨⟨EB _ _ rfl,by omega⟩,?_⟩;refine ih (i+1,acc++[(QM x.num x.fs).1]) _ ⟨Ct,by simp only[Au,Ar,Az];omega,by rw[<-he];simp only[parseV,hz,AM]⟩ (by simp only;omega) ?_
     (refine Wk.forget ?_;simp[ZF,Rl,FD];done)
   . simp only[go_sem,Dc.d,hz];refine CH mixed (p:=[(0,0),(1,0),(2,0),(3,0),(4,0),(5,0)]) (by kernel_rfl) (by simp[C8,get]) ?_;simp only[go_sem];refine BY ?_;simp only[go_sem];rw[<-he];simp[parseV,hz,Aa3,EV]
 . simp only[go_sem];have Aau:i=l.length:=by simp at h2;omega
   subst Aau;refine BY ?_;simp only[go_sem];rw[BA] at he;rw[<-he];simp[parseV,Aa3,FD,Ah9]
end Go.Am
end
