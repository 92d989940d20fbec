/- Texts of this proof, what it rests on, merged: part E. -/
import Derived.Test.YtjbklifaekjilaaGreatDoorProg
import Derived.KernelRfl
import Derived.Test.YtjbklifaekjilaaGreatDoorExD
noncomputable section
namespace Go.Am
open Go Go.Proofs
open Tryz
set_option maxRecDepth 100000
set_option linter.unusedVariables false
set_option linter.unusedSimpArgs false
set_option maxHeartbeats 2000000
theorem ti2:CG prog 2=some ⟨1,8,.int .i64,.p (.int .i64 0)⟩:=by kernel_rfl
theorem ti3:CG prog 3=some ⟨1,8,.int .i64,.p (.int .i64 0)⟩:=by kernel_rfl
theorem ti4:CG prog 4=some ⟨1,1,.bool,.p (.bool false)⟩:=by kernel_rfl
theorem ti5:CG prog 5=some ⟨1,1,.int .u8,.p (.int .u8 0)⟩:=by kernel_rfl
theorem ti9:CG prog 9=some ⟨1,16,.string,.p (.str [])⟩:=by kernel_rfl
theorem Adl:CG prog 22=some ⟨1,24,.slice 3,.cl []⟩:=by kernel_rfl
theorem Ba0:CG prog 23=some ⟨4,32,.array 4 3,.agg [.p (.int .i64 0),.p (.int .i64 0),.p (.int .i64 0),.p (.int .i64 0)]⟩:=by kernel_rfl
theorem Azz:CG prog 26=some ⟨1,24,.slice 9,.cl []⟩:=by kernel_rfl
theorem Azy:CG prog 27=some ⟨1,24,.slice 76,.cl []⟩:=by kernel_rfl
theorem u5:CG prog 28=some ⟨1,24,.slice 22,.cl []⟩:=by kernel_rfl
theorem Azx:CG prog 29=some ⟨1,24,.slice 68,.cl []⟩:=by kernel_rfl
theorem Azw:CG prog 31=some ⟨4,32,.struct [(0,3),(1,3),(2,3),(3,3)],.agg [.p (.int .i64 0),.p (.int .i64 0),.p (.int .i64 0),.p (.int .i64 0)]⟩:=by kernel_rfl
theorem Bc8:Wq prog 31=some [.int,.int,.int,.int]:=by kernel_rfl
theorem Azv:CG prog 33=some ⟨8,128,.struct [(0,27),(1,28),(2,29),(3,22),(4,31)],.agg [.cl [],.cl [],.cl [],.cl [],.p (.int .i64 0),.p (.int .i64 0),.p (.int .i64 0),.p (.int .i64 0)]⟩:=by kernel_rfl
theorem Azu:CG prog 35=some ⟨4,48,.struct [(0,3),(1,22),(2,3),(3,3)],.agg [.p (.int .i64 0),.cl [],.p (.int .i64 0),.p (.int .i64 0)]⟩:=by kernel_rfl
theorem Azt:CG prog 42=some ⟨1,24,.slice 80,.cl []⟩:=by kernel_rfl
theorem Azs:CG prog 45=some ⟨1,24,.slice 82,.cl []⟩:=by kernel_rfl
theorem Azr:CG prog 52=some ⟨1,24,.slice 4,.cl []⟩:=by kernel_rfl
theorem Azq:CG prog 60=some ⟨2,32,.struct [(0,22),(1,3)],.agg [.cl [],.p (.int .i64 0)]⟩:=by kernel_rfl
theorem Azp:CG prog 68=some ⟨6,56,.struct [(0,9),(1,4),(2,3),(3,3),(4,3),(5,3)],.agg [.p (.str []),.p (.bool false),.p (.int .i64 0),.p (.int .i64 0),.p (.int .i64 0),.p (.int .i64 0)]⟩:=by kernel_rfl
theorem Bc7:Wq prog 68=some [.str,.bool,.int,.int,.int,.int]:=by kernel_rfl
theorem u4:CG prog 72=some ⟨1,24,.slice 5,.cl []⟩:=by kernel_rfl
theorem Azo:CG prog 76=some ⟨3,32,.struct [(0,9),(1,3),(2,3)],.agg [.p (.str []),.p (.int .i64 0),.p (.int .i64 0)]⟩:=by kernel_rfl
theorem Bc6:Wq prog 76=some [.str,.int,.int]:=by kernel_rfl
theorem Azn:CG prog 80=some ⟨2,32,.struct [(0,3),(1,26)],.agg [.p (.int .i64 0),.cl []]⟩:=by kernel_rfl
theorem Azm:CG prog 82=some ⟨4,64,.struct [(0,3),(1,3),(2,26),(3,22)],.agg [.p (.int .i64 0),.p (.int .i64 0),.cl [],.cl []]⟩:=by kernel_rfl
theorem Azl:CG prog 87=some ⟨9,136,.struct [(0,33),(8,4)],.agg [.cl [],.cl [],.cl [],.cl [],.p (.int .i64 0),.p (.int .i64 0),.p (.int .i64 0),.p (.int .i64 0),.p (.bool false)]⟩:=by kernel_rfl
theorem Azk:CG prog 91=some ⟨24,24,.array 24 4,.agg [.p (.bool false),.p (.bool false),.p (.bool false),.p (.bool false),.p (.bool false),.p (.bool false),.p (.bool false),.p (.bool false),.p (.bool false),.p (.bool false),.p (.bool false),.p (.bool false),.p (.bool false),.p (.bool false),.p (.bool false),.p (.bool false),.p (.bool false),.p (.bool false),.p (.bool false),.p (.bool false),.p (.bool false),.p (.bool false),.p (.bool false),.p (.bool false)]⟩:=by kernel_rfl
theorem Azj:CG prog 95=some ⟨1,8,.other,.bad⟩:=by kernel_rfl
theorem Azi:CG prog 98=some ⟨1,8,.other,.bad⟩:=by kernel_rfl
theorem Awl:CG prog 115=some ⟨1,24,.slice 120,.cl []⟩:=by kernel_rfl
theorem Awk:CG prog 117=some ⟨14,208,.struct [(0,33),(8,95),(9,95),(10,22),(11,3),(12,115),(13,4)],.agg [.cl [],.cl [],.cl [],.cl [],.p (.int .i64 0),.p (.int .i64 0),.p (.int .i64 0),.p (.int .i64 0),.bad,.bad,.cl [],.p (.int .i64 0),.cl [],.p (.bool false)]⟩:=by kernel_rfl
theorem Awj:CG prog 120=some ⟨2,16,.array 2 3,.agg [.p (.int .i64 0),.p (.int .i64 0)]⟩:=by kernel_rfl
theorem Ayg:Wq prog 120=some [.int,.int]:=by kernel_rfl
theorem Asf:CG prog 137=some ⟨3,40,.struct [(0,9),(1,9),(2,4)],.agg [.p (.str []),.p (.str []),.p (.bool false)]⟩:=by kernel_rfl
theorem Ase:CG prog 138=some ⟨21,280,.array 7 137,.agg [.p (.str []),.p (.str []),.p (.bool false),.p (.str []),.p (.str []),.p (.bool false),.p (.str []),.p (.str []),.p (.bool false),.p (.str []),.p (.str []),.p (.bool false),.p (.str []),.p (.str []),.p (.bool false),.p (.str []),.p (.str []),.p (.bool false),.p (.str []),.p (.str []),.p (.bool false)]⟩:=by kernel_rfl
theorem Awi:CG prog 155=some ⟨1,24,.slice 137,.cl []⟩:=by kernel_rfl
theorem Awh:CG prog 160=some ⟨1,8,.int .u64,.p (.int .u64 0)⟩:=by kernel_rfl
theorem Awg:CG prog 163=some ⟨9,200,.struct [(0,28),(1,52),(2,22),(3,22),(4,22),(5,22),(6,22),(7,3),(8,22)],.agg [.cl [],.cl [],.cl [],.cl [],.cl [],.cl [],.cl [],.p (.int .i64 0),.cl []]⟩:=by kernel_rfl
theorem Awf:CG prog 192=some ⟨1,8,.int .u64,.p (.int .u64 0)⟩:=by kernel_rfl
theorem Awq:mapOf prog 95=some (.str,.int .i64 0):=by kernel_rfl
theorem Aka:mapOf prog 98=some (.int .i64,.bool false):=by kernel_rfl
theorem Ad0:Enters prog 4:=call4
theorem Ar9:Enters prog 8:=call8
theorem Ar8:Enters prog 9:=call9
theorem Ano:Enters prog 10:=call10
theorem Ann:Enters prog 12:=call12
theorem Anm:Enters prog 14:=call14
theorem Anl:Enters prog 15:=call15
theorem Ank:Enters prog 16:=call16
theorem Anj:Enters prog 17:=call17
theorem Ani:Enters prog 18:=call18
theorem Anh:Enters prog 19:=call19
theorem Ang:Enters prog 20:=call20
theorem Anf:Enters prog 21:=call21
theorem Ane:Enters prog 23:=call23
theorem Anc:Enters prog 24:=call24
theorem Anb:Enters prog 25:=call25
theorem Ana:Enters prog 26:=call26
theorem An9:Enters prog 27:=call27
theorem ZQ:Enters prog 28:=call28
theorem An8:Enters prog 29:=call29
theorem An7:Enters prog 30:=call30
theorem An6:Enters prog 31:=call31
theorem An5:Enters prog 32:=call32
theorem An4:Enters prog 34:=call34
theorem An3:Enters prog 35:=call35
theorem An2:Enters prog 36:=call36
theorem An1:Enters prog 37:=call37
theorem An0:Enters prog 38:=call38
theorem Amz:Enters prog 39:=call39
theorem ZP:Enters prog 40:=call40
theorem ZO:Enters prog 41:=call41
theorem Amy:Enters prog 42:=call42
theorem Amx:Enters prog 43:=call43
theorem Amw:Enters prog 44:=call44
theorem Up:Enters prog 45:=call45
theorem Amv:Enters prog 46:=call46
theorem Amu:Enters prog 47:=call47
theorem Amt:Enters prog 48:=call48
theorem Ams:Enters prog 49:=call49
theorem ZN:Enters prog 53:=call53
theorem Amr:Enters prog 54:=call54
theorem Amq:Enters prog 55:=call55
theorem ZM:Enters prog 56:=call56
theorem Amp:Enters prog 57:=call57
theorem Amo:Enters prog 58:=call58
theorem Amn:Enters prog 59:=call59
theorem Amm:Enters prog 60:=call60
theorem Aml:Enters prog 61:=call61
theorem Amk:Enters prog 62:=call62
theorem Amj:Enters prog 63:=call63
theorem Ami:Enters prog 64:=call64
theorem Amh:Enters prog 65:=call65
theorem Amg:Enters prog 66:=call66
theorem ZL:Enters prog 67:=call67
theorem Amf:Enters prog 68:=call68
theorem Ame:Enters prog 70:=call70
theorem Amd:Enters prog 71:=call71
theorem ZK:Enters prog 72:=call72
theorem Amc:Enters prog 73:=call73
theorem Amb:Enters prog 74:=call74
theorem ZJ:Enters prog 75:=call75
theorem Ama:Enters prog 76:=call76
theorem Am9:Enters prog 77:=call77
theorem Am8:Enters prog 78:=call78
theorem Am7:Enters prog 79:=call79
theorem Am6:Enters prog 80:=call80
theorem Am5:Enters prog 81:=call81
theorem Am4:Enters prog 82:=call82
theorem Am3:Enters prog 83:=call83
theorem Am2:Enters prog 84:=call84
theorem ZI:Enters prog 85:=call85
theorem Am1:Enters prog 86:=call86
theorem Am0:Enters prog 87:=call87
theorem Alz:Enters prog 89:=call89
theorem Aly:Enters prog 91:=call91
theorem Alx:Enters prog 92:=call92
theorem Alw:Enters prog 99:=call99
theorem Ah4:Enters prog 100:=call100
theorem Ah3:Enters prog 101:=call101
theorem Wx:Enters prog 102:=call102
theorem Ah2:Enters prog 103:=call103
theorem Ah1:Enters prog 104:=call104
theorem Ah0:Enters prog 105:=call105
theorem Agz:Enters prog 106:=call106
theorem Agy:Enters prog 107:=call107
theorem Agx:Enters prog 108:=call108
theorem Agw:Enters prog 109:=call109
theorem Agv:Enters prog 110:=call110
theorem Agu:Enters prog 111:=call111
theorem Agt:Enters prog 112:=call112
theorem Ags:Enters prog 113:=call113
theorem Agr:Enters prog 114:=call114
theorem Agq:Enters prog 115:=call115
theorem Agp:Enters prog 116:=call116
theorem Ago:Enters prog 117:=call117
theorem Agn:Enters prog 118:=call118
theorem Agm:Enters prog 119:=call119
theorem Agl:Enters prog 120:=call120
theorem Agk:Enters prog 121:=call121
theorem Agj:Enters prog 122:=call122
theorem Agi:Enters prog 123:=call123
theorem Agh:Enters prog 124:=call124
theorem Agg:Enters prog 125:=call125
theorem Agf:Enters prog 126:=call126
theorem Age:Enters prog 127:=call127
theorem Agd:Enters prog 128:=call128
theorem Agc:Enters prog 133:=call133
theorem Agb:Enters prog 138:=call138
theorem Aga:Enters prog 139:=call139
theorem Ag9:Enters prog 140:=call140
theorem Ag8:Enters prog 141:=call141
theorem Ag7:Enters prog 142:=call142
theorem Ag6:Enters prog 143:=call143
theorem Ag5:Enters prog 144:=call144
theorem Ag4:Enters prog 150:=call150
theorem Ag3:Enters prog 154:=call154
theorem Ag2:Enters prog 155:=call155
theorem Ag1:Enters prog 156:=call156
theorem Ag0:Enters prog 157:=call157
theorem Afz:Enters prog 158:=call158
theorem Afy:Enters prog 163:=call163
theorem Afx:Enters prog 164:=call164
theorem Afw:Enters prog 169:=call169
theorem Afv:Enters prog 170:=call170
theorem Ww:Enters prog 171:=call171
theorem Afu:Enters prog 172:=call172
theorem Aft:Enters prog 178:=call178
theorem Afs:Enters prog 179:=call179
theorem Afr:Enters prog 186:=call186
theorem mixed:prog.follows .mixedOrders=true:=by kernel_rfl
attribute [go_sem] ti2 ti3 ti4 ti5 ti9 Adl Ba0 Azz
attribute [go_sem] Azy u5 Azx Azw Bc8 Azv Azu
attribute [go_sem] Azt Azs Azr Azq Azp Bc7 u4
attribute [go_sem] Azo Bc6 Azn Azm Azl Azk
attribute [go_sem] Azj Azi Awl Awk Awj Ayg Asf
attribute [go_sem] Ase Awi Awh Awg
attribute [go_sem] Awf
attribute [go_sem] Awq Aka ntmps4 results4
attribute [go_sem] ntmps8 results8 ntmps9 results9 ntmps10 results10
attribute [go_sem] ntmps12 results12 ntmps14 results14 ntmps15 results15 ntmps16 results16 ntmps17
attribute [go_sem] results17 ntmps18 results18 ntmps19 results19 ntmps20 results20 ntmps21 results21 ntmps23
attribute [go_sem] results23 ntmps24 results24 ntmps25 results25 ntmps26 results26 ntmps27 results27 ntmps28 results28 ntmps29
attribute [go_sem] results29 ntmps30 results30 ntmps31 results31 ntmps32 results32 ntmps34 results34 ntmps35
attribute [go_sem] results35 ntmps36 results36 ntmps37 results37 ntmps38 results38 ntmps39 results39 ntmps40 results40 ntmps41
attribute [go_sem] results41 ntmps42 results42 ntmps43 results43 ntmps44 results44 ntmps45 results45 ntmps46 results46 ntmps47
attribute [go_sem] results47 ntmps48 results48 ntmps49 results49 ntmps53
attribute [go_sem] results53 ntmps54 results54 ntmps55 results55 ntmps56 results56 ntmps57 results57 ntmps58 results58 ntmps59
attribute [go_sem] results59 ntmps60 results60 ntmps61 results61 ntmps62 results62 ntmps63 results63 ntmps64 results64 ntmps65
attribute [go_sem] results65 ntmps66 results66 ntmps67 results67 ntmps68 results68 ntmps70 results70 ntmps71
attribute [go_sem] results71 ntmps72 results72 ntmps73 results73 ntmps74 results74 ntmps75 results75 ntmps76 results76 ntmps77
attribute [go_sem] results77 ntmps78 results78 ntmps79 results79 ntmps80 results80 ntmps81 results81 ntmps82 results82 ntmps83
attribute [go_sem] results83 ntmps84 results84 ntmps85 results85 ntmps86 results86 ntmps87 results87 ntmps89
attribute [go_sem] results89 ntmps91 results91 ntmps92 results92
attribute [go_sem] ntmps99 results99 ntmps100 results100 ntmps101
attribute [go_sem] results101 ntmps102 results102 ntmps103 results103 ntmps104 results104 ntmps105 results105 ntmps106 results106 ntmps107
attribute [go_sem] results107 ntmps108 results108 ntmps109 results109 ntmps110 results110 ntmps111 results111 ntmps112 results112 ntmps113
attribute [go_sem] results113 ntmps114 results114 ntmps115 results115 ntmps116 results116 ntmps117 results117 ntmps118 results118 ntmps119
attribute [go_sem] results119 ntmps120 results120 ntmps121 results121 ntmps122 results122 ntmps123 results123 ntmps124 results124 ntmps125
attribute [go_sem] results125 ntmps126 results126 ntmps127 results127 ntmps128 results128
attribute [go_sem] ntmps133 results133
attribute [go_sem] ntmps138 results138 ntmps139 results139 ntmps140 results140 ntmps141 results141 ntmps142 results142 ntmps143
attribute [go_sem] results143 ntmps144 results144
attribute [go_sem] ntmps150 results150 ntmps154 results154 ntmps155
attribute [go_sem] results155 ntmps156 results156 ntmps157 results157 ntmps158 results158
attribute [go_sem] ntmps163 results163 ntmps164 results164 ntmps169
attribute [go_sem] results169 ntmps170 results170 ntmps171 results171 ntmps172 results172
attribute [go_sem] ntmps178 results178 ntmps179 results179
attribute [go_sem] ntmps186 results186
attribute [go_sem ↓] reduceIte
attribute [go_sem] Nat.reduceLT Nat.reduceLeDiff Nat.reduceEqDiff Nat.reduceAdd Nat.reduceMul Nat.reduceSub reduceCtorEq Int.reduceLT Int.reduceLE Int.reduceEq Int.reduceToNat decide_true decide_false Int.reduceNeg Int.cast_ofNat_Int sg AO.sg Option.isNone_none
def BY(l:List Int):List (List Pd):=l.map λ n=>[.int .i64 n]
def Cw(l:List (List UInt8)):List (List Pd):=l.map λ s=>[.str s]
theorem BW(l:List Int):(BY l).length=l.length:=by simp[BY]
theorem Ch(l:List Int)(i:Nat)(h:i<l.length):(BY l).getD i []=[.int .i64 (l.getD i 0)]:=by simp[BY,List.getD,h]
theorem B3(l:List (List UInt8)):(Cw l).length=l.length:=by simp[Cw]
theorem Dz(l:List (List UInt8))(i:Nat)(h:i<l.length):(Cw l).getD i []=[.str (l.getD i [])]:=by simp[Cw,List.getD,h]
theorem DN(l:List Int)(x:Int):BY (l++[x])=BY l++[[.int .i64 x]]:=by simp[BY]
theorem Dx(l:List (List UInt8))(x:List UInt8):Cw (l++[x])=Cw l++[[.str x]]:=by simp[Cw]
theorem Gt(l:List Int)(n:Nat)(h:l.length<=n):(BY l).take n=BY l:=List.take_of_length_le (by simpa [BY] using h)
theorem FN(l:List (List UInt8))(n:Nat)(h:l.length<=n):(Cw l).take n=Cw l:=List.take_of_length_le (by simpa [Cw] using h)
theorem Dq(n:Nat)(x:List Pd)(h:x.length=n):JS n [x]:=by simp[JS,h]
theorem Qj(l:List (List UInt8))(i:Nat)(x:List UInt8):Cw (l.set i x)=(Cw l).set i [.str x]:=by simp[Cw,Bl]
theorem Dd(l:List Int)(i:Nat)(x:Int):BY (l.set i x)=(BY l).set i [.int .i64 x]:=by simp[BY,Bl]
theorem CB{α:Type}(l:List α)(i:Nat)(x:α)(h:i<l.length):l.getD i x∈l:=by simp only[List.getD,Az h,A4];exact AM h
theorem C8{α:Type}(l:List α)(i:Nat)(x:α)(h:i<l.length):l.drop i=l.getD i x::l.drop (i+1):=by rw[AW h];simp[List.getD,h]
def Ap3(x:Int):Prop:=-9223372036854775808<=x/\x<=9223372036854775807
theorem Ca(i:Nat)(h:i<9223372036854775807):IntKind.i64.wrap ((i:Int)+1)=((i+1:Nat):Int):=by rw[B2]<;>omega
def cut(v n:Int):Int:=if n<=1 then 0 else if v.tmod n<0 then v.tmod n+n else v.tmod n
theorem Ava(v n:Int):0<=cut v n/\(cut v n<n∨cut v n=0):=by
 unfold cut;split
 . omega
 . have h1:=Int.tmod_lt_of_pos v (show 0<n by omega);have h2:=Int.lt_tmod_of_pos v (show 0<n by omega);split<;>omega
theorem Ao4(v n:Int)(hn:Ap3 n):B1 prog 28 [.p (.int .i64 v),.p (.int .i64 n)] [] λ h r=>h=[]/\r= .p (.int .i64 (cut v n)):=by
 unfold Ap3 at hn;refine B0 func28 rfl ZQ (by simp[Tryz.f28]) ?_;simp only[go_sem];refine Cv (λ h1=>?_) (λ h1=>?_)
 . simp only[go_sem];simp at h1;simp[cut,h1]
 . simp only[go_sem];simp at h1;refine ⟨by omega,?_⟩;refine Cv (λ h2=>?_) (λ h2=>?_)
   . simp at h2;have h3:IntKind.i64.wrap (v.tmod n+n)=v.tmod n+n:=by
       have h4:=Int.tmod_lt_of_pos v (show 0<n by omega);have h5:=Int.lt_tmod_of_pos v (show 0<n by omega);rw[B2]<;>omega
     simp only[go_sem,h3];simp only[cut,h2,AP,true_and];rw[if_neg (by omega)]
   . simp only[go_sem];simp at h2;simp only[cut,true_and];rw[if_neg (by omega),if_neg (by omega)]
def ME(l:List Int)(at_:Nat)(n:Int):Int:=cut (if at_<l.length then l.getD at_ 0 else ((at_:Int)*7).tmod 11) n
theorem Ak5(l:List Int)(at_:Nat)(n:Int):0<=ME l at_ n/\(ME l at_ n<n∨ME l at_ n=0):=Ava _ _
theorem CT(l:List Int)(at_:Nat)(n:Int)(hn:0<n):∃k:Nat,ME l at_ n=(k:Int)/\(k:Int)<n:=by
 have h:=Ak5 l at_ n;exact ⟨(ME l at_ n).toNat,by omega,by omega⟩
theorem CJ(n:Int)(h0:0<=n)(h1:n<=1000000):Ap3 n:=by unfold Ap3;omega
theorem K6(l:List UInt8):(Ew l).length=l.length:=by simp[Ew]
theorem ZX(l:List UInt8)(i:Nat)(h:i<l.length):(Ew l).getD i []=[.int .u8 (l.getD i 0).toNat]:=by simp[Ew,List.getD,h]
def Dg(l:List Int)(at_:Nat):List D:=[.p (.sl (BY l)),.p (.int .i64 (at_:Nat))]
theorem ZF:(∀st st1:St,Le st st1=(st1.n=st.n/\QF st.env st1.env/\C3 st.hp st1.hp/\((DH st1.env++Ek st1.hp).all λ id=>(get st1.hp id).isSome)=true/\EV st1.hp st.hp))/\
   (∀e:List (Nat×D),QF e []=True)/\(∀(e:List (Nat×D)) (t:Nat) (d:D) (r:List (Nat×D)),QF e ((t,d)::r)=(get e t=some d/\QF e r))/\
   (∀h:Hp,C3 h []=True)/\(∀(h:Hp) (id:Nat) (o:AO) (r:Hp),C3 h ((id,o)::r)=(get h id=some o/\C3 h r))/\
   (∀(α:Type) (k:Nat),get ([]:List (Nat×α)) k=none)/\(∀(α:Type) (k':Nat) (x:α) (r:List (Nat×α)) (k:Nat),get ((k',x)::r) k=if k'=k then some x else get r k)/\
   DH []=[]/\(∀(t:Nat) (d:D) (r:List (Nat×D)),DH ((t,d)::r)=d.ids++DH r)/\Ek []=[]/\(∀(id:Nat) (o:AO) (r:Hp),Ek ((id,o)::r)=o.ids++Ek r)/\
   (∀h:Hp,EV h []=True)/\(∀(h:Hp) (id:Nat) (o:AO) (r:Hp),EV h ((id,o)::r)=((base<=id->get h id=some o)/\EV h r))/\
   (∀x,D.ids (.p x)=[])/\(∀cs,D.ids (.agg cs)=Du cs)/\(∀cs,D.ids (.Dr cs)=Du cs)/\(∀es,D.ids (.cl es)=[])/\(∀es,D.ids (.cz es)=[])/\(∀i a b c,D.ids (.ref i a b c)=[i])/\(∀i a,D.ids (.ptr i a)=[i])/\(∀cs,D.ids (.pe cs)=[])/\
   (∀i a b c,D.ids (.ea i a b c)=[i])/\(∀f cs,D.ids (.fn f cs)=Du cs)/\D.ids .np=[]/\(∀i,D.ids (.mv i)=[i])/\(∀i a,D.ids (.Dt i a)=[i])/\(∀i a b,D.ids (.MG i a b)=[i])/\(∀i a b c,D.ids (.nr i a b c)=[i])/\D.ids .Sq=[]/\
   Du []=[]/\(∀d r,Du (d::r)=D.ids d++Du r)/\(∀cs t,AO.ids (.box cs t)=Du cs)/\(∀t sz es,AO.ids (.arr t sz es)=[])/\(∀sz es,AO.ids (.M3 sz es)=[])/\(∀l q,AO.ids (.iter l q)=[])/\(∀g cs,AO.ids (.FY g cs)=[])/\(∀x,AO.ids (.Fi x)=[])/\(∀l,AO.ids (.mp l)=[])/\(∀t e sz k rows hole,AO.ids (.Dp t e sz k rows hole)=[])/\
   (∀(α:Type) (k:Nat) (x:α),Cy [] k x=[(k,x)])/\(∀(α:Type) (k':Nat) (x':α) (r:List (Nat×α)) (k:Nat) (x:α),Cy ((k',x')::r) k x=if k'=k then (k,x)::r else (k',x')::Cy r k x)/\base=1000000:=by
 refine ⟨?_,?_,?_,?_,?_,?_,?_,?_,?_,?_,?_,?_,?_,?_,?_,?_,?_,?_,?_,?_,?_,?_,?_,?_,?_,?_,?_,?_,?_,?_,?_,?_,?_,?_,?_,?_,?_,?_,?_,?_,?_,?_⟩<;>intros<;>first | rfl | simp only[D.ids,Du,AO.ids]
theorem Cq{P:Program}{s:Bool}{ops rest:List Oper}{k:Kt}{dst:Option Nat}{st:St}{h:Hp}{T:List Nat}{f:FuncId}{ds:List D}{hs:Hp}{S:Prop}{h1:Hp}{d:D}(hc:B1 P f ds hs λ h' r=>h'=h1/\r=d)
   (hk:fresh (dst.getD 0) h h1/\O P s ops rest k (({st with hp:=merge T (dst.getD 0) h h1}:St).put dst (d.D8 (back T (dst.getD 0))))):Cc P s ops rest k dst st h T f ds hs S:=Ec hc (by rintro _ _ ⟨rfl,rfl⟩;exact hk)
theorem Gq{P:Program}{l:List Oper}{hR:Hp}{r:List (Nat×Nat)}{k:Kt}{kd:Nat}{dst:Option Nat}{st:St}{h:Hp}{T:List Nat}{f:FuncId}{ds:List D}{hs:Hp}{S:Prop}{h1:Hp}{d:D}(hc:B1 P f ds hs λ h' x=>h'=h1/\x=d)
   (hk:fresh (dst.getD 0) h h1/\Hd kd (merge T (dst.getD 0) h h1) hR/\G P l hR r k (({st with hp:=merge T (dst.getD 0) h h1}:St).put dst (d.D8 (back T (dst.getD 0))))):Gh P l hR r k kd dst st h T f ds hs S:=Ap6 hc (by rintro _ _ ⟨rfl,rfl⟩;exact hk)
theorem C6(l:List Int)(at_:Nat)(n:Int)(Ji:at_<1000000000000)(hn:Ap3 n):
   B1 prog 44 [.ptr 1000000 0,.p (.int .i64 n)] [(1000000,.box (Dg l at_))] λ h r=>h=[(1000000,.box (Dg l (at_+1)))]/\r= .p (.int .i64 (ME l at_ n)):=by
 refine B0 func44 rfl Amw (by simp[Tryz.f44]) ?_;have h7:IntKind.i64.wrap ((at_:Int)*7)=(at_:Int)*7:=by rw[B2]<;>omega
 have h8:IntKind.i64.wrap ((at_:Int)+1)=((at_+1:Nat):Int):=by rw[B2]<;>omega
 unfold Dg;simp only[go_sem,h7];refine Di [(1000000,.box [.p (.sl (BY l)),.p (.int .i64 (at_:Nat))])] mixed (p:=[(0,0),(1,0),(2,0),(3,0),(4,0),(5,0),(6,0),(7,0),(8,0),(9,0)]) (by kernel_rfl) (by simp[C3,get]) ?_;simp only[go_sem,h7,BW];refine Cv (λ h1=>?_) (λ h1=>?_)
 . have Cr:at_<l.length:=by simp at h1;omega
   refine Di [(1000000,.box [.p (.sl (BY l)),.p (.int .i64 (at_:Nat))])] mixed (p:=[(0,0),(1,0),(2,0),(3,0),(4,0),(5,0),(6,0),(7,0),(8,0),(9,0),(10,0)]) (by kernel_rfl) (by simp[C3,get]) ?_;simp only[go_sem,h8,BW,Ab,Ch l at_ Cr];refine ⟨by omega,Ec (Ao4 _ _ hn) ?_⟩;rintro h' r ⟨rfl,rfl⟩;simp only[go_sem,h8];simp[ME,Cr]
 . simp only[go_sem,h8];refine Cq (Ao4 _ _ hn) ?_;simp only[go_sem,h8];have:¬at_<l.length:=by simp at h1;omega
   simp[ME,this]
structure Dc where
 word:Int
 line:Int
 names:List (List UInt8)
 B7:List Int
 deriving DecidableEq
def II:Dc:=⟨0,0,[],[]⟩
def Dc.d(x:Dc):D:= .agg [.p (.int .i64 x.word),.p (.int .i64 x.line),.p (.sl (Cw x.names)),.p (.sl (BY x.B7))]
structure Ln where
 num:Int
 fs:List (List UInt8)
 deriving DecidableEq
def Y7:Ln:=⟨0,[]⟩
def EO(l:List Ln):List (List Pd):=l.map λ x=>[.int .i64 x.num,.sl (Cw x.fs)]
theorem CM(l:List Ln):(EO l).length=l.length:=by simp[EO]
theorem M9(l:List Ln)(i:Nat)(h:i<l.length):(EO l).getD i []=[.int .i64 (l.getD i Y7).num,.sl (Cw (l.getD i Y7).fs)]:=by simp[EO,List.getD,h]
theorem Jk(l:List Ln)(x:Ln):EO (l++[x])=EO l++[[.int .i64 x.num,.sl (Cw x.fs)]]:=by simp[EO]
theorem Rx(l:List Ln)(n:Nat)(h:l.length<=n):(EO l).take n=EO l:=List.take_of_length_le (by simpa [EO] using h)
def DM(l:List Dc):List (List Pd):=l.map λ x=>[.int .i64 x.word,.int .i64 x.line,.sl (Cw x.names),.sl (BY x.B7)]
theorem CO(l:List Dc):(DM l).length=l.length:=by simp[DM]
theorem ZW(l:List Dc)(i:Nat)(h:i<l.length):(DM l).getD i []=[.int .i64 (l.getD i II).word,.int .i64 (l.getD i II).line,.sl (Cw (l.getD i II).names),.sl (BY (l.getD i II).B7)]:=by simp[DM,List.getD,h]
theorem FO(l:List Dc)(x:Dc):DM (l++[x])=DM l++[[.int .i64 x.word,.int .i64 x.line,.sl (Cw x.names),.sl (BY x.B7)]]:=by simp[DM]
theorem WE(l:List Dc)(n:Nat)(h:l.length<=n):(DM l).take n=DM l:=List.take_of_length_le (by simpa [DM] using h)
def GU(c:Int):Bool:=decide (97<=c/\c<=122)||decide (65<=c/\c<=90)
theorem TG(c:Int):B1 prog 82 [.p (.int .u8 c)] [] λ h r=>h=[]/\r= .p (.bool (GU c)):=by
 refine B0 func82 rfl Am4 (by simp[Tryz.f82]) ?_;by_cases h1:97<=c<;>by_cases h2:c<=122<;>by_cases h3:65<=c<;>by_cases h4:c<=90<;>(try omega)<;>
 . simp only[go_sem,h1,h2,h3,h4];simp[GU,h1,h2,h3,h4]
theorem TF(c:Int):B1 prog 120 [.p (.int .u8 c)] [] λ h r=>h=[]/\r= .p (.bool (GU c)):=by
 refine B0 func120 rfl Agl (by simp[Tryz.f120]) ?_;by_cases h1:97<=c<;>by_cases h2:c<=122<;>by_cases h3:65<=c<;>by_cases h4:c<=90<;>(try omega)<;>
 . simp only[go_sem,h1,h2,h3,h4];simp[GU,h1,h2,h3,h4]
def r8(c:Int):Bool:=GU c||decide (48<=c/\c<=57)||decide (c=45)||decide (c=95)
def CY(l:List UInt8):Bool:=match l with
 | []=>false
 | b::_=>decide (l.length<=12)&&GU b.toNat&&l.all λ c=>r8 c.toNat
theorem E7(c:Int):r8 c=(GU c||(decide (48<=c)&&decide (c<=57))||decide (c=45)||decide (c=95)):=by simp[r8]
theorem PG(l:List UInt8):B1 prog 42 [.p (.str l)] [] λ h r=>h=[]/\r= .p (.bool (CY l)):=by
 refine B0 func42 rfl Amy (by simp[Tryz.f42]) ?_;cases l with
 | nil=>
   simp only[go_sem];rfl
 | cons b l=>
   by_cases hL:(12:Int)<((l.length+1:Nat):Int)
   . simp only[go_sem,hL];have:¬l.length+1<=12:=by omega
     simp[CY,this]
   . simp only[go_sem,hL,AX];refine ⟨by omega,Ec (TG _) ?_⟩;rintro h' r ⟨rfl,rfl⟩;simp only[go_sem,hL];cases hb:GU b.toNat
     . simp only[go_sem];simp[CY,hb]
     . simp only[go_sem];refine o7 rfl ti9 u4 ti5 rfl ?_;simp only[go_sem,K6];refine B4 (λ i=>⟨[(19,.p (.sl (Ew (b::l)))),(20,.p (.int .i64 ((l.length+1:Nat):Int))),(21,.p (.int .i64 (i:Nat)))],[],45⟩) (λ i=>i<=l.length+1/\∀j,j<i->r8 ((b::l).getD j 0).toNat=true) (λ i=>l.length+1 - i) 0 ⟨AD _,by simp⟩
         (Wk.forget (by simp[Le,QF,C3,get,DH,Ek,EV,D.ids])) ?_
       rintro i n ⟨hi,he⟩ ih;simp only[go_sem,K6];refine Cv (λ h2=>?_) (λ h2=>?_)
       . have Cr:i<(b::l).length:=by simp at h2 ⊢;omega
         simp only[go_sem,K6,Ab,ZX (b::l) i Cr];have hw:=Ca i (by omega);generalize R5:(((b::l).getD i 0).toNat:Int)=c;refine ⟨by simp at Cr;omega,Ec (TG _) ?_⟩;rintro h' r ⟨rfl,rfl⟩;have N5:r8 c=false->CY (b::l)=false:=by
           intro hf;have:((b::l).all λ c=>r8 c.toNat)=false:=by
             rw[Bool.eq_false_iff];intro ht;have:=AB.1 ht ((b::l).getD i 0) (by simp only[List.getD,Az Cr,A4];exact AM Cr);rw[R5,hf] at this;cases this
           simp only[CY,this,Bool.and_false]
         have TT:r8 c=true->∀j,j<i+1->r8 ((b::l).getD j 0).toNat=true:=by
           intro ht j hj;rcases AF.1 hj with hj | rfl
           . exact he j hj
           . rw[R5];exact ht
         have hle:i+1<=l.length+1:=by simp only[Al] at Cr;omega
         cases hlc:GU c
         . by_cases Vs:c<48<;>by_cases h57:57<c<;>by_cases h45:c=45<;>by_cases h95:c=95<;>(try omega)<;>
           . simp only[go_sem,hlc,Vs,h57,h45,h95,hw];first
               | exact ⟨trivial,by rw[N5 (by simp[E7,hlc];omega)]⟩
               | exact ⟨rfl,by rw[N5 (by simp[E7,hlc];omega)]⟩
               | (rw[N5 (by simp[E7,hlc];omega)])
               | exact ih (i+1) _ ⟨hle,TT (by simp[E7,hlc];omega)⟩ (by omega) (Wk.forget (by simp[Le,QF,C3,get,DH,Ek,EV,D.ids]))
         . simp only[go_sem,hlc,hw];exact ih (i+1) _ ⟨hle,TT (by simp[E7,hlc])⟩ (by omega) (Wk.forget (by simp[Le,QF,C3,get,DH,Ek,EV,D.ids]))
       . simp only[go_sem];have D7:i=l.length+1:=by simp at h2;omega
         have Dw:((b::l).all λ c=>r8 c.toNat)=true:=by
           refine AB.2 λ x hx=>?_;obtain ⟨j,hj,rfl⟩:=AA.1 hx;have:=he j (by simp at hj;omega)
           simpa only[List.getD,List.getElem?_eq_getElem hj,Option.getD_some] using this
         have Rq:l.length+1<=12:=by omega
         simp only[CY,Dw,hb,Al,Rq,decide_true,Bool.and_self,and_self]
theorem PF(l:List UInt8):B1 prog 73 [.p (.str l)] [] λ h r=>h=[]/\r= .p (.bool (CY l)):=by
 refine B0 func73 rfl Amc (by simp[Tryz.f73]) ?_;cases l with
 | nil=>
   simp only[go_sem];rfl
 | cons b l=>
   by_cases hL:(12:Int)<((l.length+1:Nat):Int)
   . simp only[go_sem,hL];have:¬l.length+1<=12:=by omega
     simp[CY,this]
   . simp only[go_sem,hL,AX];refine ⟨by omega,Ec (TF _) ?_⟩;rintro h' r ⟨rfl,rfl⟩;simp only[go_sem,hL];cases hb:GU b.toNat
     . simp only[go_sem];simp[CY,hb]
     . simp only[go_sem];refine B4 (λ i=>⟨[(0,.p (.str (b::l))),(3,.p (.int .i64 (i:Nat)))],[],46⟩) (λ i=>i<=l.length+1/\∀j,j<i->r8 ((b::l).getD j 0).toNat=true) (λ i=>l.length+1 - i) 0 ⟨AD _,by simp⟩
         (Wk.forget (by simp[Le,QF,C3,get,DH,Ek,EV,D.ids])) ?_
       rintro i n ⟨hi,he⟩ ih;simp only[go_sem];refine Cv (λ h2=>?_) (λ h2=>?_)
       . have Cr:i<(b::l).length:=by simp at h2 ⊢;omega
         simp only[go_sem,Ab];have hw:=Ca i (by omega);generalize R5:(((b::l).getD i 0).toNat:Int)=c;refine ⟨by simp at Cr;omega,Ec (TF _) ?_⟩;rintro h' r ⟨rfl,rfl⟩;have N5:r8 c=false->CY (b::l)=false:=by
           intro hf;have:((b::l).all λ c=>r8 c.toNat)=false:=by
             rw[Bool.eq_false_iff];intro ht;have:=AB.1 ht ((b::l).getD i 0) (by simp only[List.getD,Az Cr,A4];exact AM Cr);rw[R5,hf] at this;cases this
           simp only[CY,this,Bool.and_false]
         have TT:r8 c=true->∀j,j<i+1->r8 ((b::l).getD j 0).toNat=true:=by
           intro ht j hj;rcases AF.1 hj with hj | rfl
           . exact he j hj
           . rw[R5];exact ht
         have hle:i+1<=l.length+1:=by simp only[Al] at Cr;omega
         cases hlc:GU c
         . by_cases Vs:c<48<;>by_cases h57:57<c<;>by_cases h45:c=45<;>by_cases h95:c=95<;>(try omega)<;>
           . simp only[go_sem,hlc,Vs,h57,h45,h95,hw];first
               | exact ⟨trivial,by rw[N5 (by simp[E7,hlc];omega)]⟩
               | exact ⟨rfl,by rw[N5 (by simp[E7,hlc];omega)]⟩
               | (rw[N5 (by simp[E7,hlc];omega)])
               | exact ih (i+1) _ ⟨hle,TT (by simp[E7,hlc];omega)⟩ (by omega) (Wk.forget (by simp[Le,QF,C3,get,DH,Ek,EV,D.ids]))
         . simp only[go_sem,hlc,hw];exact ih (i+1) _ ⟨hle,TT (by simp[E7,hlc])⟩ (by omega) (Wk.forget (by simp[Le,QF,C3,get,DH,Ek,EV,D.ids]))
       . simp only[go_sem];have D7:i=l.length+1:=by simp at h2;omega
         have Dw:((b::l).all λ c=>r8 c.toNat)=true:=by
           refine AB.2 λ x hx=>?_;obtain ⟨j,hj,rfl⟩:=AA.1 hx;have:=he j (by simp at hj;omega)
           simpa only[List.getD,List.getElem?_eq_getElem hj,Option.getD_some] using this
         have Rq:l.length+1<=12:=by omega
         simp only[CY,Dw,hb,Al,Rq,decide_true,Bool.and_self,and_self]
def Mh(s p:List UInt8):Bool:=decide (p.length<=s.length)&&decide (s.take p.length=p)
theorem XG(s p:List UInt8):B1 prog 164 [.p (.str s),.p (.str p)] [] λ h r=>h=[]/\r= .p (.bool (Mh s p)):=by
 refine B0 func164 rfl Afx (by simp[Tryz.f164]) ?_;by_cases h1:(p.length:Int)<=s.length
 . simp only[go_sem,h1,Ab];refine ⟨by omega,?_⟩;have h2:p.length<=s.length:=by omega
   simp[Mh,h2]
 . simp only[go_sem,h1];have h2:¬p.length<=s.length:=by omega
   simp[Mh,h2]
theorem Vw(s p:List UInt8):B1 prog 170 [.p (.str s),.p (.str p)] [] λ h r=>h=[]/\r= .Dr [.p (.str (if Mh s p then s.drop p.length else s)),.p (.bool (Mh s p))]:=by
 refine B0 func170 rfl Afv (by simp[Tryz.f170]) ?_;simp only[go_sem];refine Cq (XG s p) ?_;simp only[go_sem];cases hp:Mh s p
 . simp only[go_sem];refine Cm ?_;simp only[go_sem];try simp
 . simp only[go_sem,Ab];have h1:p.length<=s.length:=by
     simp only[Mh,As,Au] at hp;exact hp.1
   refine ⟨by omega,Cm ?_⟩;simp only[go_sem];try simp
theorem XR(s p:List UInt8):B1 prog 140 [.p (.str s),.p (.str p)] [] λ h r=>h=[]/\r= .Dr [.p (.str (if Mh s p then s.drop p.length else s)),.p (.bool (Mh s p))]:=by
 refine B0 func140 rfl Ag9 (by simp[Tryz.f140]) ?_;simp only[go_sem];refine Cq (Vw s p) ?_;simp only[go_sem];refine Cm ?_;simp only[go_sem]
def D3(l:List UInt8):Int:=l.foldl (λ n c=>10*n+((c.toNat:Int) - 48)) 0
def Oa(c:Int):Bool:=decide (48<=c)&&decide (c<=57)
def Oq(l:List UInt8):Bool:=l.all λ c=>Oa c.toNat
def numOf(neg:Bool)(l:List UInt8):Int×Bool:=
 match l with
 | []=>(0,false)
 | b::r=>if 4<r.length+1∨((b.toNat:Int)=48/\(neg=true∨1<r.length+1)) then (0,false)
   else if Oq (b::r) then (if neg then 0 - D3 (b::r) else D3 (b::r),true) else (0,false)
def Ka(s:List UInt8):Int×Bool:=if Mh s [45] then numOf true (s.drop 1) else numOf false s
theorem QM(l:List UInt8)(i:Nat)(h:i<l.length):D3 (l.take (i+1))=10*D3 (l.take i)+(((l.getD i 0).toNat:Int) - 48):=by
 unfold D3;rw[List.take_succ_eq_append_getElem h,List.foldl_append];simp[List.getD,h]
theorem p10(i:Nat)(h:i<=4):(10:Int) ^ i<=10000:=by
 rcases i with _ | _ | _ | _ | _ | i<;>simp at*<;>omega
theorem Aaa(s:List UInt8):B1 prog 108 [.p (.str s)] [] λ h r=>h=[]/\r= .Dr [.p (.int .i64 (Ka s).1),.p (.bool (Ka s).2)]:=by
 refine B0 func108 rfl Agx (by simp[Tryz.f108]) ?_;simp only[go_sem];refine Cq (XR s [45]) ?_;simp only[go_sem];have key:Ka s=numOf (Mh s [45]) (if Mh s [45]=true then List.drop 1 s else s):=by
   unfold Ka;cases Mh s [45]<;>rfl
 rw[key];clear key;generalize Mh s [45]=neg;generalize (if neg=true then List.drop 1 s else s)=l;cases l with
 | nil=>
   simp only[go_sem];refine Cm ?_;simp only[go_sem];try simp[numOf]
 | cons b l=>
   by_cases hL:(4:Int)<((l.length+1:Nat):Int)
   . simp only[go_sem,hL];refine Cm ?_;simp only[go_sem];have:4<l.length+1:=by omega
     try simp[numOf,this]
   . have hL':¬4<l.length+1:=by omega
     have hlen:(b::l).length<=4:=by simp only[Al];omega
     have bad:∀c:Int,(∃i,i<(b::l).length/\(((b::l).getD i 0).toNat:Int)=c)->Oa c=false->Oq (b::l)=false:=by
       rintro c ⟨i,hi,hc⟩ hf;rw[Bool.eq_false_iff];intro ht;have:=AB.1 ht ((b::l).getD i 0) (by simp only[List.getD,Az hi,A4];exact AM hi);simp only[hc,hf] at this;cases this
     by_cases JV:(b.toNat:Int)=48/\(neg=true∨1<l.length+1)
     . obtain ⟨Vs,hn⟩:=JV;have JT:numOf neg (b::l)=(0,false):=by simp only[numOf,Vs,hn,and_self,or_true,AP]
       cases neg
       . have h1:(1:Int)<((l.length+1:Nat):Int):=by simp at hn;omega
         simp only[go_sem,hL,AX,Vs,h1];refine ⟨by omega,Cm ?_⟩;simp only[go_sem,JT]
       . simp only[go_sem,hL,AX,Vs];refine ⟨by omega,Cm ?_⟩;simp only[go_sem,JT]
     . have JT:numOf neg (b::l)=if Oq (b::l) then (if neg then 0 - D3 (b::l) else D3 (b::l),true) else (0,false):=by
         simp only[numOf,hL',JV,or_self,Bd]
       have Ald:((b.toNat:Int)≠48)∨((b.toNat:Int)=48/\neg=false/\¬(1:Int)<((l.length+1:Nat):Int)):=by
         by_cases h:(b.toNat:Int)=48
         . right;refine ⟨h,?_,?_⟩
           . cases neg
             . rfl
             . exact (JV ⟨h,.inl rfl⟩).elim
           . intro h1;exact JV ⟨h,.inr (by omega)⟩
         . exact .inl h
       rcases Ald with Vs | ⟨Vs,hng,h1⟩
       all_goals
         have PW:=JT;first | rw[hng] at PW | skip
         first
           | simp only[go_sem,hL,AX,Vs,h1,hng]
           | simp only[go_sem,hL,AX,Vs]
         refine ⟨by omega,o7 rfl ti9 u4 ti5 rfl ?_⟩;simp only[go_sem,K6];refine B4 (λ i=>⟨[(35,.p (.sl (Ew (b::l)))),(36,.p (.int .i64 ((l.length+1:Nat):Int))),(37,.p (.int .i64 (i:Nat))),(6,.p (.int .i64 (D3 ((b::l).take i)))),(5,.p (.bool neg))],[],58⟩) (λ i=>i<=l.length+1/\0<=D3 ((b::l).take i)/\D3 ((b::l).take i)<10 ^ i/\∀j,j<i->Oa ((b::l).getD j 0).toNat=true) (λ i=>l.length+1 - i) 0 ⟨AD _,by simp[D3],by simp[D3],by simp⟩
           (Wk.forget (by first | (simp[Le,QF,C3,get,DH,Ek,EV,D.ids,D3];done) | simp[Le,QF,C3,get,DH,Ek,EV,D.ids,D3,hng])) ?_
         rintro i n ⟨hi,Pl,hv1,he⟩ ih;simp only[go_sem,K6];refine Cv (λ h2=>?_) (λ h2=>?_)
         . have Cr:i<(b::l).length:=by simp at h2 ⊢;omega
           simp only[go_sem,K6,Ab,ZX (b::l) i Cr];have hw:=Ca i (by omega);have R3:=QM (b::l) i Cr;generalize R5:(((b::l).getD i 0).toNat:Int)=c at R3;refine ⟨by simp only[Al] at Cr;omega,?_⟩;have hle:i+1<=l.length+1:=by simp only[Al] at Cr;omega
           have hp:(10:Int) ^ i<=10000:=p10 i (by omega);have JU:(10:Int) ^ (i+1)=10*10 ^ i:=by rw[Int.pow_succ];omega
           by_cases N8:c<48
           . simp only[go_sem,N8];refine Cm ?_;simp only[go_sem,PW,bad c ⟨i,Cr,R5⟩ (by simp[Oa];omega)];try simp
           . by_cases IQ:57<c
             . simp only[go_sem,N8,IQ];refine Cm ?_;simp only[go_sem,PW,bad c ⟨i,Cr,R5⟩ (by simp[Oa];omega)];try simp
             . have w1:IntKind.i64.wrap (10*D3 ((b::l).take i))=10*D3 ((b::l).take i):=by rw[B2]<;>omega
               have w2:IntKind.u8.wrap (c - 48)=c - 48:=by rw[IntKind.wrap_u8];omega
               have w3:IntKind.i64.wrap (c - 48)=c - 48:=by rw[B2]<;>omega
               have w4:IntKind.i64.wrap (10*D3 ((b::l).take i)+(c - 48))=D3 ((b::l).take (i+1)):=by rw[R3,B2]<;>omega
               simp only[go_sem,N8,IQ,w1,w2,w3,w4,hw];refine ih (i+1) _ ⟨hle,by omega,by omega,λ j hj=>?_⟩ (by omega) (Wk.forget (by simp[Le,QF,C3,get,DH,Ek,EV,D.ids]));rcases AF.1 hj with hj | rfl
               . exact he j hj
               . rw[R5];simp[Oa];omega
         . simp only[go_sem];have D7:i=(b::l).length:=by simp at h2 ⊢;omega
           have Dw:Oq (b::l)=true:=by
             refine AB.2 λ x hx=>?_;obtain ⟨j,hj,rfl⟩:=AA.1 hx;have:=he j (by omega)
             simpa only[List.getD,List.getElem?_eq_getElem hj,Option.getD_some] using this
           have hp:(10:Int) ^ i<=10000:=p10 i (by omega);rw[D7,Ar] at Pl hv1;rw[D7,Ar];have w5:IntKind.i64.wrap (0 - D3 (b::l))=0 - D3 (b::l):=by rw[<-D7] at hv1;rw[B2]<;>omega
           refine Cv (λ h3=>?_) (λ h3=>?_)
           . simp only[go_sem,w5];refine Cm ?_;have hr3:=JT;rw[h3] at hr3;first | (simp only[go_sem,hr3,Dw,h3];done) | (simp only[go_sem,hr3,Dw,h3];simp;done) | (simp[hng] at h3;done)
           . simp only[go_sem];refine Cm ?_;have hr3:=JT;rw[h3] at hr3;simp only[go_sem,hr3,Dw,h3];try simp
structure Eh where
 name:List UInt8
 x:Int
 y:Int
 deriving DecidableEq
structure C5 where
 name:List UInt8
 Cz:Bool
 HA:Int
 out:Int
 Cs:Int
 base:Int
 deriving DecidableEq
structure Nt where
 blocks:List Eh
 next:List (List Int)
 spurs:List C5
 B5:List Int
 cq:Int
 ca:Int
 cd:Int
 cp:Int
 deriving DecidableEq
def FG:Eh:=⟨[],0,0⟩
def Co:C5:=⟨[],false,0,0,0,0⟩
def CV(l:List Eh):List (List Pd):=l.map λ b=>[.str b.name,.int .i64 b.x,.int .i64 b.y]
def Cj(l:List (List Int)):List (List Pd):=l.map λ r=>[.sl (BY r)]
def CQ(l:List C5):List (List Pd):=l.map λ s=>[.str s.name,.bool s.Cz,.int .i64 s.HA,.int .i64 s.out,.int .i64 s.Cs,.int .i64 s.base]
theorem Cf(l:List Eh):(CV l).length=l.length:=by simp[CV]
theorem Cb(l:List (List Int)):(Cj l).length=l.length:=by simp[Cj]
theorem Cd(l:List C5):(CQ l).length=l.length:=by simp[CQ]
theorem JJ(l:List Eh)(i:Nat)(h:i<l.length):(CV l).getD i []=[.str (l.getD i FG).name,.int .i64 (l.getD i FG).x,.int .i64 (l.getD i FG).y]:=by simp[CV,List.getD,h]
theorem Gi(l:List (List Int))(i:Nat)(h:i<l.length):(Cj l).getD i []=[.sl (BY (l.getD i []))]:=by simp[Cj,List.getD,h]
theorem Eo(l:List C5)(i:Nat)(h:i<l.length):(CQ l).getD i []=[.str (l.getD i Co).name,.bool (l.getD i Co).Cz,.int .i64 (l.getD i Co).HA,.int .i64 (l.getD i Co).out,.int .i64 (l.getD i Co).Cs,.int .i64 (l.getD i Co).base]:=by simp[CQ,List.getD,h]
theorem WB(l:List Eh)(b:Eh):CV (l++[b])=CV l++[[.str b.name,.int .i64 b.x,.int .i64 b.y]]:=by simp[CV]
theorem NN(l:List C5)(s:C5):CQ (l++[s])=CQ l++[[.str s.name,.bool s.Cz,.int .i64 s.HA,.int .i64 s.out,.int .i64 s.Cs,.int .i64 s.base]]:=by simp[CQ]
theorem WA(l:List Eh)(n:Nat)(h:l.length<=n):(CV l).take n=CV l:=List.take_of_length_le (by simpa [CV] using h)
theorem Ahd(l:List (List Int))(n:Nat)(h:l.length<=n):(Cj l).take n=Cj l:=List.take_of_length_le (by simpa [Cj] using h)
theorem Wz(l:List C5)(n:Nat)(h:l.length<=n):(CQ l).take n=CQ l:=List.take_of_length_le (by simpa [CQ] using h)
theorem Na(l:List (List Int))(i:Nat)(r:List Int):Cj (l.set i r)=(Cj l).set i [.sl (BY r)]:=by simp[Cj,Bl]
def C1(l:List Bool):List (List Pd):=l.map λ b=>[.bool b]
def Nt.cs(n:Nt):List D:=[.p (.sl (CV n.blocks)),.p (.sl (Cj n.next)),.p (.sl (CQ n.spurs)),.p (.sl (BY n.B5)),.p (.int .i64 n.cq),.p (.int .i64 n.ca),.p (.int .i64 n.cd),.p (.int .i64 n.cp)]
def KR:List Int->Int->List Int
 | [],x=>[x]
 | y::r,x=>if x<y then x::y::r else y::KR r x
theorem Akp(l:List Int)(x:Int):(KR l x).length=l.length+1:=by
 induction l with
 | nil=>rfl
 | cons y r ih=>unfold KR;split<;>simp[ih]
theorem TO(l:List Int)(x z:Int):z∈KR l x↔z=x∨z∈l:=by
 induction l with
 | nil=>simp[KR]
 | cons y r ih=>
   unfold KR;split
   . simp
   . simp only[AG,ih];constructor<;>(rintro (h | h | h)<;>simp[h])
theorem Akq(l:List Int)(x:Int)(h:l.Pairwise (· < ·))(hx:x∉l):(KR l x).Pairwise (· < ·):=by
 induction l with
 | nil=>simp[KR]
 | cons y r ih=>
   rw[BH] at h;unfold KR;split
   . rename_i h1;rw[BH];refine ⟨λ z hz=>?_,BH.2 h⟩;rcases AG.1 hz with rfl | hz
     . exact h1
     . have:=h.1 z hz;omega
   . rename_i h1;have Dl:x≠y:=λ e=>hx (by simp[e]);rw[BH];refine ⟨λ z hz=>?_,ih h.2 (λ hm=>hx (Bk _ hm))⟩;rcases (TO r x z).1 hz with rfl | hz
     . omega
     . exact h.1 z hz
theorem getD_eq{α:Type}{l:List α}{k:Nat}{x:α}(h:k<l.length):l.getD k x=l[k]:=by simp[List.getD,h]
theorem GQ(l:List Bool)(i:Nat)(h:i<l.length):(C1 l).getD i []=[.bool (l.getD i false)]:=by simp[C1,List.getD,h]
theorem CI{α:Type}(l:List α)(i:Nat)(x:α)(h:i<l.length):l.take (i+1)=l.take i++[l.getD i x]:=by
 rw[BP,List.getD,Az h];rfl
theorem LM(l:List Int)(i:Nat):(BY l).take i=BY (l.take i):=by simp[BY,BN]
theorem CC{n:Nat}(h:n<10000000):IntKind.i64.wrap ((n:Int)+1)=((n+1:Nat):Int):=Ca n (by omega)
theorem gde{α:Type}{l:List α}{k:Nat}{x:α}(h:k<l.length):l.getD k x=l[k]:=by simp[List.getD,h]
theorem E2{α:Type}(l:List α)(v:Nat)(x d:α)(w:Nat)(hv:v<l.length):(l.set v x).getD w d=if w=v then x else l.getD w d:=by
 simp only[List.getD,BR];by_cases h:w=v
 . subst h;simp[hv]
 . rw[if_neg (Be h),if_neg h]
theorem getD_map'{α β:Type}(f:α->β)(l:List α)(i:Nat)(x:α)(y:β)(h:i<l.length):(l.map f).getD i y=f (l.getD i x):=by simp[List.getD,h]
theorem Ak0:∀(a b:List Int),a.Nodup->(∀x∈a,x∈b)->a.length<=b.length
 | [],_,_,_=>by simp
 | x::a,b,hn,hs=>by
   rw[BD] at hn;have hx:=hs x (by simp);have h1:=Ak0 a (b.erase x) hn.2 (λ y hy=>(List.mem_erase_of_ne (λ e=>hn.1 (by rw[<-e];exact hy))).2 (hs y (by simp[hy])));rw[List.length_erase_of_mem hx] at h1;have:=List.length_pos_of_mem hx;simp only[Al];omega
def IH(n:Nat):List UInt8:=if h:n<10 then [UInt8.ofNat (48+n)] else IH (n / 10)++[UInt8.ofNat (48+n % 10)]
termination_by n
decreasing_by omega
def Vv(n:Int):List UInt8:=if n<0 then 45::IH (-n).toNat else IH n.toNat
theorem GX(n:Nat)(h:n<10):IH n=[UInt8.ofNat (48+n)]:=by rw[IH,dif_pos h]
theorem Nb(n:Nat)(h:¬n<10):IH n=IH (n / 10)++[UInt8.ofNat (48+n % 10)]:=by rw[IH,dif_neg h]
theorem JK:∀(k n:Nat),n<10 ^ (k+1)->(IH n).length<=k+1
 | 0,n,h=>by rw[GX n (by simpa using h)];simp
 | k+1,n,h=>by
   by_cases h1:n<10
   . rw[GX n h1];simp
   . have:=JK k (n / 10) (by rw[Nat.pow_succ] at h;omega);rw[Nb n h1];simp;omega
theorem Jl(n:Nat)(hn:n<=1000000000000000):B1 prog 56 [.p (.int .i64 (n:Nat))] [] λ h r=>h=[]/\r= .p (.str (IH n)):=by
 refine B0 func56 rfl ZM (by simp[Tryz.f56]) ?_;have hlen:=JK 15 n (by omega);have h0:¬(n:Int)<0:=by omega
 simp only[go_sem,h0];refine B4 (λ q:Nat×List UInt8=>⟨[(0,.p (.int .i64 (q.1:Nat))),(3,.p (.str q.2))],[],23⟩) (λ q=>q.1<=n/\IH q.1++q.2=IH n) (λ q=>q.1) (n,[]) ⟨Ai _,by simp⟩ (Wk.forget (by simp[ZF])) ?_;rintro ⟨m,s⟩ k ⟨hm,he⟩ ih;simp only at hm he;have Zq:(m:Int).tmod 10=((m % 10:Nat):Int):=by rw[Int.tmod_eq_emod_of_nonneg (by omega)];omega
 have hdiv:(m:Int).tdiv 10=((m / 10:Nat):Int):=by rw[Int.tdiv_eq_ediv_of_nonneg (by omega)];omega
 have w1:IntKind.i64.wrap (48+((m % 10:Nat):Int))=48+((m % 10:Nat):Int):=by rw[B2]<;>omega
 have w2:IntKind.u8.wrap (48+((m % 10:Nat):Int))=((UInt8.ofNat (48+m % 10)).toNat:Int):=by rw[IntKind.wrap_u8];simp
 have w3:IntKind.i64.wrap ((m / 10:Nat):Int)=((m / 10:Nat):Int):=by rw[B2]<;>omega
 have Asu:¬(10:Int)=0:=by decide
 have hsl:s.length<=20:=by have:=congrArg List.length he;simp at this;omega
 simp only[go_sem,Zq,hdiv,w1,w2,Asu];refine Abv (l:=[UInt8.ofNat (48+m % 10)]) rfl u4 ti9 ti5 rfl rfl ?_;simp only[go_sem,Zq,hdiv,w3,Asu];refine ⟨by unfold maxLen;omega,?_⟩;refine Cv (λ h2=>?_) (λ h2=>?_)
 . simp only[go_sem];have h3:m<10:=by simp at h2;omega
   rw[<-he,GX m h3,Nat.mod_eq_of_lt h3];rfl
 . have h3:¬m<10:=by simp at h2;omega
   simp only[go_sem];refine ih (m / 10,[UInt8.ofNat (48+m % 10)]++s) _ ⟨by simp only;omega,by rw[<-he,Nb m h3];simp⟩ (by simp only;omega) ?_
   (refine Wk.forget ?_;simp[ZF];done)
theorem Ahj(n:Int)(h0:-1000000000000000<=n)(h1:n<=1000000000000000):B1 prog 56 [.p (.int .i64 n)] [] λ h r=>h=[]/\r= .p (.str (Vv n)):=by
 by_cases hn:n<0
 . refine B0 func56 rfl ZM (by simp[Tryz.f56]) ?_;have hw:IntKind.i64.wrap (0 - n)=(((-n).toNat:Nat):Int):=by rw[B2]<;>omega
   have hlen:=JK 15 (-n).toNat (by omega);simp only[go_sem,hn,hw];refine Cq (Jl (-n).toNat (by omega)) ?_;simp only[go_sem];refine ⟨by unfold maxLen;omega,?_⟩;(try simp only[go_sem]);simp[Vv,hn]
 . have:=Jl n.toNat (by omega);rw[show ((n.toNat:Nat):Int)=n by omega] at this;refine this.mono ?_;rintro h r ⟨rfl,rfl⟩;exact ⟨rfl,by simp[Vv,hn]⟩
theorem MU(l:List Int)(x:Int)(hl:l.length<=10000000):
   B1 prog 45 [.p (.sl (BY l)),.p (.int .i64 x)] [] λ h r=>h=[]/\r= .p (.bool (decide (x∈l))):=by
 refine B0 func45 rfl Up (by simp[Tryz.f45]) ?_;simp only[go_sem,BW];refine B4 (λ i=>⟨[(0,.p (.sl (BY l))),(1,.p (.int .i64 x)),(5,.p (.int .i64 (i:Nat)))],[],18⟩) (λ i=>i<=l.length/\x∉l.take i) (λ i=>l.length - i) 0 ⟨AD _,by simp⟩ (Wk.forget (by simp[ZF,BY])) ?_;rintro i n ⟨hi,he⟩ ih;simp only[go_sem,BW];refine Cv (λ h2=>?_) (λ h2=>?_)
 . have Cr:i<l.length:=by simp at h2;omega
   have hw:=Ca i (by omega);have hg:=Ch l i Cr;have hx:l[i]?=some (l.getD i 0):=by simp[List.getD,Cr]
   have C0:(0:Int)<=(i:Int)/\(i:Int)<(l.length:Int):=by omega
   have E0:=CB l i 0 Cr;generalize l.getD i 0=y at*;simp only[go_sem,BW,Ab,hg,C0];cases hv:decide (y=x)
   . simp only[go_sem,hv,hw];refine ih (i+1) _ ⟨Cr,?_⟩ (by omega) ?_
     . rw[BP,hx];have:¬x=y:=λ e=>Ae hv e.symm;simp[he,this]
     . (refine Wk.forget ?_;simp[ZF,BY];done)
   . simp only[go_sem,hv];have hm:x∈l:=by rw[<-Ad hv];exact E0
     simp[hm]
 . simp only[go_sem];have:i=l.length:=by simp at h2;omega
   subst this;rw[Ar] at he;simp[he]
theorem Aqy(l:List Int)(x:Int)(hl:l.length<=10000000):
   B1 prog 45 [.ref 1000000 0 l.length l.length,.p (.int .i64 x)] [(1000000,.arr 3 1 (BY l))] λ h r=>h=[(1000000,.arr 3 1 (BY l))]/\r= .p (.bool (decide (x∈l))):=by
 refine B0 func45 rfl Up (by simp[Tryz.f45]) ?_;simp only[go_sem,BW];refine B4 (λ i=>⟨[(0,.ref 1000000 0 l.length l.length),(1,.p (.int .i64 x)),(5,.p (.int .i64 (i:Nat)))],[(1000000,.arr 3 1 (BY l))],18⟩) (λ i=>i<=l.length/\x∉l.take i) (λ i=>l.length - i) 0 ⟨AD _,by simp⟩ (Wk.forget (by simp[ZF,BY])) ?_;rintro i n ⟨hi,he⟩ ih;simp only[go_sem,BW];refine Cv (λ h2=>?_) (λ h2=>?_)
 . have Cr:i<l.length:=by simp at h2;omega
   have hw:=Ca i (by omega);have hg:=Ch l i Cr;have hx:l[i]?=some (l.getD i 0):=by simp[List.getD,Cr]
   have C0:(0:Int)<=(i:Int)/\(i:Int)<(l.length:Int):=by omega
   have E0:=CB l i 0 Cr;generalize l.getD i 0=y at*;simp only[go_sem,BW,Ab,hg,C0];cases hv:decide (y=x)
   . simp only[go_sem,hv,hw];refine ih (i+1) _ ⟨Cr,?_⟩ (by omega) ?_
     . rw[BP,hx];have:¬x=y:=λ e=>Ae hv e.symm;simp[he,this]
     . (refine Wk.forget ?_;simp[ZF,BY];done)
   . simp only[go_sem,hv];have hm:x∈l:=by rw[<-Ad hv];exact E0
     simp[hm]
 . simp only[go_sem];have:i=l.length:=by simp at h2;omega
   subst this;rw[Ar] at he;simp[he]
theorem NF(l:List Int)(x:Int)(hl:l.length<=10000000):
   B1 prog 102 [.p (.sl (BY l)),.p (.int .i64 x)] [] λ h r=>h=[]/\r= .p (.sl (BY (KR l x))):=by
 refine B0 func102 rfl Wx (by simp[Tryz.f102]) ?_;simp only[go_sem,BW];refine B4 (λ q:Nat×Bool×List Int=>⟨[(0,.p (.sl (BY l))),(1,.p (.int .i64 x)),(5,.ref 27 0 q.2.2.length q.2.2.length),(6,.p (.bool q.2.1)),(7,.p (.int .i64 (q.1:Nat)))],[(27,.arr 3 1 (BY q.2.2))],42⟩)
   (λ q=>q.1<=l.length/\q.2.2.length<=q.1+q.2.1.toNat/\q.2.2++(if q.2.1 then l.drop q.1 else KR (l.drop q.1) x)=KR l x) (λ q=>l.length - q.1) (0,false,[]) ⟨AD _,by simp,by simp⟩ ((Wk.nil (t:=5) (q:=27) (sz:=1) 3 rfl rfl (by decide)).trans (Wk.forget (by simp[ZF,BY]))) ?_
 rintro ⟨i,dn,acc⟩ n ⟨hi,ha,he⟩ ih;simp only at hi ha he;simp only[go_sem,BW];refine Cv (λ h2=>?_) (λ h2=>?_)
 . have Cr:i<l.length:=by simp at h2;omega
   have hw:=Ca i (by omega);have hg:=Ch l i Cr;have C0:(0:Int)<=(i:Int)/\(i:Int)<(l.length:Int):=by omega
   rw[C8 l i 0 Cr] at he;generalize l.getD i 0=y at*;cases dn
   . cases hv:decide (x<y)
     . have hv':¬x<y:=Ae hv;simp only[go_sem,BW,Ab,hg,C0,hv,hv'];refine ⟨⟨Dq _ _ rfl,by simp at ha;omega⟩,?_⟩;simp only[go_sem,hw];refine ih (i+1,false,acc++[y]) _ ⟨Cr,by simp at ha ⊢;omega,?_⟩ (by simp only;omega) ?_
       . rw[<-he];simp[KR,hv']
       . (refine Wk.forget ?_;simp[ZF,DN,BW];done)
     . have hv':x<y:=Ad hv;simp only[go_sem,BW,Ab,hg,C0,hv,hv'];refine ⟨⟨Dq _ _ rfl,by simp at ha;omega⟩,⟨Dq _ _ rfl,by simp at ha;simp[BW];omega⟩,?_⟩;simp only[go_sem,hw];refine ih (i+1,true,acc++[x]++[y]) _ ⟨Cr,by simp at ha ⊢;omega,?_⟩ (by simp only;omega) ?_
       . rw[<-he];simp[KR,hv']
       . (refine Wk.forget ?_;simp[ZF,BY];done)
   . simp only[go_sem,BW,Ab,hg,C0];refine ⟨⟨Dq _ _ rfl,by simp at ha;omega⟩,?_⟩;simp only[go_sem,hw];refine ih (i+1,true,acc++[y]) _ ⟨Cr,by simp at ha ⊢;omega,?_⟩ (by simp only;omega) ?_
     . rw[<-he];simp
     . (refine Wk.forget ?_;simp[ZF,DN,BW];done)
 . have:i=l.length:=by simp at h2;omega
   subst this;rw[A2] at he;cases dn
   . simp only[go_sem,BW];refine ⟨⟨Dq _ _ rfl,by simp at ha;omega⟩,?_⟩;refine BX ?_;simp only[go_sem];rw[<-he];(try rw[AE (by simp[BW])]);simp[KR,BY]
   . simp only[go_sem];refine BX ?_;simp only[go_sem];rw[<-he];simp[Gt,BW]
def Jz(nb i:Nat)(l:List Int)(k:Nat):Prop:=0<=l.getD k 0/\l.getD k 0<(nb:Int)/\l.getD k 0≠(i:Int)/\(0<k->l.getD (k - 1) 0<l.getD k 0)
instance (nb i:Nat) (l:List Int) (k:Nat):Decidable (Jz nb i l k):=by unfold Jz;exact inferInstance
def Ig(nb i:Nat)(l:List Int):Prop:=∀k,k<l.length->Jz nb i l k
instance (nb i:Nat) (l:List Int):Decidable (Ig nb i l):=by unfold Ig;exact inferInstance
def D0(g:List (List Int)):Prop:=g.length<=24/\∀i,i<g.length->Ig g.length i (g.getD i [])
instance (g:List (List Int)):Decidable (D0 g):=by unfold D0;exact inferInstance
def QQ(g:List (List Int)):Prop:=g.length<=10000000/\∀r∈g,r.length<=10000000
theorem HK(m:Nat)(h:m<9223372036854775807):IntKind.i64.wrap (((m+1:Nat):Int) - 1)=(m:Int):=by rw[B2]<;>omega
theorem Ade(g:List (List Int))(hg:QQ g):B1 prog 119 [.p (.sl (Cj g))] [] λ h r=>h=[]/\r= .p (.bool (decide (D0 g))):=by
 obtain ⟨Vo,hg2⟩:=hg;refine B0 func119 rfl Agm (by simp[Tryz.f119]) ?_;simp only[go_sem,Cb];refine Cv (λ h1=>?_) (λ h1=>?_)
 . simp only[go_sem];rw[Ah (λ hp=>?_)];have:=hp.1;simp at h1;omega
 have hlen:g.length<=24:=by simp at h1;omega
 simp only[go_sem];refine B4 (λ i:Nat=>⟨[(0,.p (.sl (Cj g))),(3,.p (.int .i64 (i:Nat)))],[],60⟩) (λ i=>i<=g.length/\∀j,j<i->Ig g.length j (g.getD j [])) (λ i=>g.length - i) 0 ⟨AD _,λ j hj=>absurd hj (AZ _)⟩ (Wk.forget (by simp[ZF])) ?_;rintro i n ⟨hi,KS⟩ ih;simp only[go_sem,Cb];refine Cv (λ h2=>?_) (λ h2=>?_);rotate_left
 . simp only[go_sem];have:i=g.length:=by simp at h2;omega
   subst this;rw[Ag ⟨hlen,KS⟩]
 have Cr:i<g.length:=by simp at h2;omega
 have hw:=Ca i (by omega);have Yh:=hg2 _ (CB g i [] Cr);have Iw:=Gi g i Cr;have JV:¬Ig g.length i (g.getD i [])->decide (D0 g)=false:=λ h=>Ah (λ hp=>h (hp.2 i Cr));have Oj:Ig g.length i (g.getD i [])->∀j,j<i+1->Ig g.length j (g.getD j []):=λ h j hj=>by
   rcases AF.1 hj with h3 | rfl
   . exact KS j h3
   . exact h
 generalize g.getD i []=r at Yh Iw JV Oj;have C0:(0:Int)<=(i:Int)/\(i:Int)<(g.length:Int):=by omega
 simp only[go_sem];refine B4 (λ k:Nat=>⟨[(0,.p (.sl (Cj g))),(3,.p (.int .i64 (i:Nat))),(4,.p (.int .i64 (k:Nat)))],[],60⟩) (λ k=>k<=r.length/\∀j,j<k->Jz g.length i r j) (λ k=>r.length - k) 0 ⟨AD _,λ j hj=>absurd hj (AZ _)⟩ (Wk.forget (by simp[ZF])) ?_;rintro k n2 ⟨hk,PZ⟩ HG;simp only[go_sem,Cb,BW,Ab,Iw,C0];refine Cv (λ h3=>?_) (λ h3=>?_);rotate_left
 . have:k=r.length:=by simp at h3;omega
   subst this;simp only[go_sem,hw];refine ih (i+1) _ ⟨Cr,Oj PZ⟩ (by omega) ?_
   (refine Wk.forget ?_;simp[ZF];done)
 have JR:k<r.length:=by simp at h3;omega
 have Hb:=Ca k (by omega);have L5:=Ch r k JR;have G5:(0:Int)<=(k:Int)/\(k:Int)<(r.length:Int):=by omega
 have Ji:Jz g.length i r k↔(0<=r.getD k 0/\r.getD k 0<(g.length:Int)/\r.getD k 0≠(i:Int)/\(0<k->r.getD (k - 1) 0<r.getD k 0)):=Iff.rfl;have Dl:¬Jz g.length i r k->decide (D0 g)=false:=λ h=>JV (λ hp=>h (hp k JR));have TT:Jz g.length i r k->∀j,j<k+1->Jz g.length i r j:=λ h j hj=>by
   rcases AF.1 hj with h4 | rfl
   . exact PZ j h4
   . exact h
 rcases k with _ | m
 . have hz0:(0:Int)<(r.length:Int):=by omega
   have hwz:IntKind.i64.wrap (0+1)=1:=rfl;generalize r.getD 0 0=y at L5 Ji;cases c1:decide (y<0);rotate_left
   . simp only[go_sem,Cb,BW,Ab,Iw,C0,L5,hz0,c1];rw[Dl (λ hp=>by have:=Ji.1 hp;simp at c1;omega)]
   cases c2:decide ((g.length:Int)<=y);rotate_left
   . simp only[go_sem,Cb,BW,Ab,Iw,C0,L5,hz0,c1,c2];rw[Dl (λ hp=>by have:=Ji.1 hp;simp at c2;omega)]
   cases c3:decide (y=(i:Int));rotate_left
   . simp only[go_sem,Cb,BW,Ab,Iw,C0,L5,hz0,c1,c2,c3];rw[Dl (λ hp=>by have:=Ji.1 hp;simp at c3;omega)]
   simp only[go_sem,Cb,BW,Ab,Iw,C0,L5,hz0,c1,c2,c3,hwz];refine HG (0+1) _ ⟨JR,TT (Ji.2 (by simp at c1 c2 c3;exact ⟨by omega,by omega,c3,λ h=>absurd h (Nat.lt_irrefl _)⟩))⟩ (by omega) ?_
   (refine Wk.forget ?_;simp[ZF];done)
 . have hmt:m<r.length:=by omega
   have hgm:=Ch r m hmt;have hm0:(0:Int)<=(m:Int)/\(m:Int)<(r.length:Int):=by omega
   have hwp:=HK m (by omega);have hkp:(0:Int)<((m+1:Nat):Int):=by omega
   rw[show m+1 - 1=m from rfl] at Ji;generalize r.getD (m+1) 0=y at L5 Ji;generalize r.getD m 0=z at hgm Ji;cases c1:decide (y<0);rotate_left
   . simp only[go_sem,Cb,BW,Ab,Iw,C0,L5,G5,c1];rw[Dl (λ hp=>by have:=Ji.1 hp;simp at c1;omega)]
   cases c2:decide ((g.length:Int)<=y);rotate_left
   . simp only[go_sem,Cb,BW,Ab,Iw,C0,L5,G5,c1,c2];rw[Dl (λ hp=>by have:=Ji.1 hp;simp at c2;omega)]
   cases c3:decide (y=(i:Int));rotate_left
   . simp only[go_sem,Cb,BW,Ab,Iw,C0,L5,G5,c1,c2,c3];rw[Dl (λ hp=>by have:=Ji.1 hp;simp at c3;omega)]
   cases c4:decide (y<=z);rotate_left
   . simp only[go_sem,Cb,BW,Ab,Iw,C0,L5,G5,hgm,hm0,hwp,hkp,c1,c2,c3,c4];rw[Dl (λ hp=>by have:=(Ji.1 hp).2.2.2 (by omega);simp at c4;omega)]
   simp only[go_sem,Cb,BW,Ab,Iw,C0,L5,G5,hgm,hm0,hwp,hkp,c1,c2,c3,c4,Hb];refine HG (m+1+1) _ ⟨JR,TT (Ji.2 (by simp at c1 c2 c3 c4;exact ⟨by omega,by omega,c3,λ _=>by omega⟩))⟩ (by omega) ?_
   (refine Wk.forget ?_;simp[ZF];done)
def X8(b:Eh):Prop:=-9999<=b.x/\b.x<=9999/\-9999<=b.y/\b.y<=9999
instance (b:Eh):Decidable (X8 b):=by unfold X8;exact inferInstance
def I7(n:Nt):Prop:=1<=n.blocks.length/\n.blocks.length<=24/\n.next.length=n.blocks.length/\∀i,i<n.blocks.length->X8 (n.blocks.getD i FG)/\(n.next.getD i []).length<=4/\Ig n.blocks.length i (n.next.getD i [])
instance (n:Nt):Decidable (I7 n):=by unfold I7;exact inferInstance
theorem Ai1(n:Nt)(hb:n.blocks.length<=10000000)(hg:QQ n.next):B1 prog 83 [.agg n.cs] [] λ h r=>h=[]/\r= .p (.bool (decide (I7 n))):=by
 obtain ⟨Vo,hg2⟩:=hg;obtain ⟨bl,nx,sp,rb,cq,ca,cd,cp⟩:=n;simp only at hb Vo hg2;refine B0 func83 rfl Am3 (by simp[Tryz.f83]) ?_;cases d1:decide ((bl.length:Int)<1);rotate_left
 . simp only[go_sem,Nt.cs,Cf,Cb,d1];rw[Ah (λ hp=>by have:=hp.1;have hd:=Ad d1;simp only at this;omega)]
 cases d2:decide (24<(bl.length:Int));rotate_left
 . simp only[go_sem,Nt.cs,Cf,Cb,d1,d2];rw[Ah (λ hp=>by have:=hp.2.1;simp at d2;simp only at this;omega)]
 cases d3:decide ((nx.length:Int)=(bl.length:Int))
 . simp only[go_sem,Nt.cs,Cf,Cb,d1,d2,d3];rw[Ah (λ hp=>by have:=hp.2.2.1;have hd:=Ae d3;simp only at this;omega)]
 have r5:1<=bl.length:=by have:=Ae d1;omega
 have T0:bl.length<=24:=by have:=Ae d2;omega
 have hl3:nx.length=bl.length:=by have:=Ad d3;omega
 simp only[go_sem,Nt.cs,Cf,Cb,d1,d2,d3];clear d1 d2 d3;refine B4 (λ i:Nat=>⟨[(1,.ptr 1 0),(3,.p (.int .i64 (i:Nat)))],[(1,.box (Nt.cs ⟨bl,nx,sp,rb,cq,ca,cd,cp⟩))],114⟩) (λ i=>i<=bl.length/\∀j,j<i->X8 (bl.getD j FG)/\(nx.getD j []).length<=4/\Ig bl.length j (nx.getD j [])) (λ i=>bl.length - i) 0 ⟨AD _,λ j hj=>absurd hj (AZ _)⟩ (Wk.forget (by simp[ZF,Nt.cs])) ?_;rintro i n ⟨hi,KS⟩ ih;simp only[go_sem,Nt.cs,Cf];refine Cv (λ h2=>?_) (λ h2=>?_);rotate_left
 . simp only[go_sem];have:i=bl.length:=by simp at h2;omega
   subst this;rw[Ag ⟨r5,T0,hl3,KS⟩]
 have Cr:i<bl.length:=by simp at h2;omega
 have hw:=Ca i (by omega);have Yh:=hg2 _ (CB nx i [] (by omega));have Iw:=Gi nx i (by omega);have hgb:=JJ bl i Cr;have R6:¬(X8 (bl.getD i FG)/\(nx.getD i []).length<=4/\Ig bl.length i (nx.getD i []))->decide (I7 ⟨bl,nx,sp,rb,cq,ca,cd,cp⟩)=false:=λ h=>Ah (λ hp=>h (hp.2.2.2 i Cr));have Ab0:(X8 (bl.getD i FG)/\(nx.getD i []).length<=4/\Ig bl.length i (nx.getD i []))->∀j,j<i+1->X8 (bl.getD j FG)/\(nx.getD j []).length<=4/\Ig bl.length j (nx.getD j []):=λ h j hj=>by
   rcases AF.1 hj with h3 | rfl
   . exact KS j h3
   . exact h
 generalize nx.getD i []=r at Yh Iw R6 Ab0;generalize bl.getD i FG=b at hgb R6 Ab0;have C0:(0:Int)<=(i:Int)/\(i:Int)<(nx.length:Int):=by omega
 have H7:(i:Int)<(bl.length:Int):=by omega
 cases c1:decide (b.x< -9999);rotate_left
 . simp only[go_sem,Cb,Cf,BW,Nt.cs,Ab,Iw,hgb,C0,H7,c1];rw[R6 (λ hp=>by have:=hp.1.1;simp at c1;omega)]
 cases c2:decide (9999<b.x);rotate_left
 . simp only[go_sem,Cb,Cf,BW,Nt.cs,Ab,Iw,hgb,C0,H7,c1,c2];rw[R6 (λ hp=>by have:=hp.1.2.1;simp at c2;omega)]
 cases c3:decide (b.y< -9999);rotate_left
 . simp only[go_sem,Cb,Cf,BW,Nt.cs,Ab,Iw,hgb,C0,H7,c1,c2,c3];rw[R6 (λ hp=>by have:=hp.1.2.2.1;simp at c3;omega)]
 cases c4:decide (9999<b.y);rotate_left
 . simp only[go_sem,Cb,Cf,BW,Nt.cs,Ab,Iw,hgb,C0,H7,c1,c2,c3,c4];rw[R6 (λ hp=>by have:=hp.1.2.2.2;simp at c4;omega)]
 cases c5:decide (4<(r.length:Int));rotate_left
 . simp only[go_sem,Cb,Cf,BW,Nt.cs,Ab,Iw,hgb,C0,H7,c1,c2,c3,c4,c5];rw[R6 (λ hp=>by have:=hp.2.1;simp at c5;omega)]
 simp only[go_sem,Cb,Cf,BW,Nt.cs,Ab,Iw,hgb,C0,H7,c1,c2,c3,c4,c5];have hxy:X8 b:=by simp at c1 c2 c3 c4;exact ⟨c1,c2,c3,c4⟩
 have hr4:r.length<=4:=by simp at c5;omega
 clear c1 c2 c3 c4 c5;have JV:¬Ig bl.length i r->decide (I7 ⟨bl,nx,sp,rb,cq,ca,cd,cp⟩)=false:=λ h=>R6 (λ hp=>h hp.2.2);have Oj:Ig bl.length i r->∀j,j<i+1->X8 (bl.getD j FG)/\(nx.getD j []).length<=4/\Ig bl.length j (nx.getD j []):=λ h=>Ab0 ⟨hxy,hr4,h⟩;refine B4 (λ k:Nat=>⟨[(1,.ptr 1 0),(3,.p (.int .i64 (i:Nat))),(4,.ptr 4 0),(5,.p (.int .i64 (k:Nat)))],[(1,.box (Nt.cs ⟨bl,nx,sp,rb,cq,ca,cd,cp⟩)),(4,.box [.p (.str b.name),.p (.int .i64 b.x),.p (.int .i64 b.y)])],114⟩) (λ k=>k<=r.length/\∀j,j<k->Jz bl.length i r j) (λ k=>r.length - k) 0 ⟨AD _,λ j hj=>absurd hj (AZ _)⟩ (Wk.forget (by simp[ZF,Nt.cs])) ?_;rintro k n2 ⟨hk,PZ⟩ HG;simp only[go_sem,Cb,Cf,BW,Nt.cs,Ab,Iw,C0,H7];refine Cv (λ h3=>?_) (λ h3=>?_);rotate_left
 . have:k=r.length:=by simp at h3;omega
   subst this;simp only[go_sem,hw];refine ih (i+1) _ ⟨Cr,Oj PZ⟩ (by omega) ?_
   (refine Wk.forget ?_;simp[ZF,Nt.cs];done)
 have JR:k<r.length:=by simp at h3;omega
 have Hb:=Ca k (by omega);have L5:=Ch r k JR;have G5:(0:Int)<=(k:Int)/\(k:Int)<(r.length:Int):=by omega
 have Ji:Jz bl.length i r k↔(0<=r.getD k 0/\r.getD k 0<(bl.length:Int)/\r.getD k 0≠(i:Int)/\(0<k->r.getD (k - 1) 0<r.getD k 0)):=Iff.rfl;have Dl:¬Jz bl.length i r k->decide (I7 ⟨bl,nx,sp,rb,cq,ca,cd,cp⟩)=false:=λ h=>JV (λ hp=>h (hp k JR));have TT:Jz bl.length i r k->∀j,j<k+1->Jz bl.length i r j:=λ h j hj=>by
   rcases AF.1 hj with h4 | rfl
   . exact PZ j h4
   . exact h
 rcases k with _ | m
 . have hz0:(0:Int)<(r.length:Int):=by omega
   have hwz:IntKind.i64.wrap (0+1)=1:=rfl;generalize r.getD 0 0=y at L5 Ji;cases c1:decide (y<0);rotate_left
   . simp only[go_sem,Cb,Cf,BW,Nt.cs,Ab,Iw,C0,H7,L5,hz0,c1];rw[Dl (λ hp=>by have:=Ji.1 hp;simp at c1;omega)]
   cases c2:decide ((bl.length:Int)<=y);rotate_left
   . simp only[go_sem,Cb,Cf,BW,Nt.cs,Ab,Iw,C0,H7,L5,hz0,c1,c2];rw[Dl (λ hp=>by have:=Ji.1 hp;simp at c2;omega)]
   cases c3:decide (y=(i:Int));rotate_left
   . simp only[go_sem,Cb,Cf,BW,Nt.cs,Ab,Iw,C0,H7,L5,hz0,c1,c2,c3];rw[Dl (λ hp=>by have:=Ji.1 hp;simp at c3;omega)]
   simp only[go_sem,Cb,Cf,BW,Nt.cs,Ab,Iw,C0,H7,L5,hz0,c1,c2,c3,hwz];refine HG (0+1) _ ⟨JR,TT (Ji.2 (by simp at c1 c2 c3;exact ⟨by omega,by omega,c3,λ h=>absurd h (Nat.lt_irrefl _)⟩))⟩ (by omega) ?_
   (refine Wk.forget ?_;simp[ZF,Nt.cs];done)
 . have hmt:m<r.length:=by omega
   have hgm:=Ch r m hmt;have hm0:(0:Int)<=(m:Int)/\(m:Int)<(r.length:Int):=by omega
   have hwp:=HK m (by omega);have hkp:(0:Int)<((m+1:Nat):Int):=by omega
   rw[show m+1 - 1=m from rfl] at Ji;generalize r.getD (m+1) 0=y at L5 Ji;generalize r.getD m 0=z at hgm Ji;cases c1:decide (y<0);rotate_left
   . simp only[go_sem,Cb,Cf,BW,Nt.cs,Ab,Iw,C0,H7,L5,G5,c1];rw[Dl (λ hp=>by have:=Ji.1 hp;simp at c1;omega)]
   cases c2:decide ((bl.length:Int)<=y);rotate_left
   . simp only[go_sem,Cb,Cf,BW,Nt.cs,Ab,Iw,C0,H7,L5,G5,c1,c2];rw[Dl (λ hp=>by have:=Ji.1 hp;simp at c2;omega)]
   cases c3:decide (y=(i:Int));rotate_left
   . simp only[go_sem,Cb,Cf,BW,Nt.cs,Ab,Iw,C0,H7,L5,G5,c1,c2,c3];rw[Dl (λ hp=>by have:=Ji.1 hp;simp at c3;omega)]
   cases c4:decide (y<=z);rotate_left
   . simp only[go_sem,Cb,Cf,BW,Nt.cs,Ab,Iw,C0,H7,L5,G5,hgm,hm0,hwp,hkp,c1,c2,c3,c4];rw[Dl (λ hp=>by have:=(Ji.1 hp).2.2.2 (by omega);simp at c4;omega)]
   simp only[go_sem,Cb,Cf,BW,Nt.cs,Ab,Iw,C0,H7,L5,G5,hgm,hm0,hwp,hkp,c1,c2,c3,c4,Hb];refine HG (m+1+1) _ ⟨JR,TT (Ji.2 (by simp at c1 c2 c3 c4;exact ⟨by omega,by omega,c3,λ _=>by omega⟩))⟩ (by omega) ?_
   (refine Wk.forget ?_;simp[ZF,Nt.cs];done)
def Dk(n:Nt):List (List UInt8):=n.blocks.map Eh.name++n.spurs.map C5.name
def IA(n:Nt):Prop:=∀i,i<(Dk n).length->CY ((Dk n).getD i [])=true/\∀k,k<i->(Dk n).getD i []≠(Dk n).getD k []
instance (n:Nt):Decidable (IA n):=by unfold IA;exact inferInstance
theorem Oc{α β:Type}(f:α->β)(l:List α)(i:Nat)(x:α)(h:i<l.length):(l.take (i+1)).map f=(l.take i).map f++[f (l.getD i x)]:=by
 rw[BP,Bj,List.getD,Az h];rfl
theorem Ak8(n:Nt)(hb:n.blocks.length<=10000000)(hs:n.spurs.length<=10000000):B1 prog 84 [.agg n.cs] [] λ h r=>h=[]/\r= .p (.bool (decide (IA n))):=by
 generalize hL:Dk n=L;have hLl:L.length=n.blocks.length+n.spurs.length:=by rw[<-hL];simp[Dk]
 refine B0 func84 rfl Am2 (by simp[Tryz.f84]) ?_;simp only[go_sem,Nt.cs];refine B4 (λ i:Nat=>⟨[(1,.ptr 1 0),(3,.ref 23 0 i i),(4,.p (.int .i64 (i:Nat)))],[(1,.box (Nt.cs n)),(23,.arr 9 1 (Cw ((n.blocks.take i).map Eh.name)))],66⟩) (λ i=>i<=n.blocks.length) (λ i=>n.blocks.length - i) 0 (AD _) ((Wk.nil (t:=3) (q:=23) (sz:=1) 9 rfl rfl (by decide)).trans (Wk.forget (by simp[ZF,Nt.cs,Cw]))) ?_;rintro i m hi ih;have hll:(Cw ((n.blocks.take i).map Eh.name)).length=i:=by rw[B3];simp;omega
 simp only[go_sem,Nt.cs,Cf];refine Cv (λ h2=>?_) (λ h2=>?_)
 . have Cr:i<n.blocks.length:=by simp at h2;omega
   have hw:=Ca i (by omega);have hgb:=JJ n.blocks i Cr;have C0:(0:Int)<=(i:Int)/\(i:Int)<(n.blocks.length:Int):=by omega
   simp only[go_sem,Cf,Nt.cs,Ab,hgb,C0,hll];refine ⟨⟨Dq _ _ rfl,by omega⟩,?_⟩;simp only[go_sem,hw];refine ih (i+1) _ Cr (by omega) ?_
   (refine Wk.forget ?_;simp[ZF,Nt.cs,Oc Eh.name n.blocks i FG Cr,Dx,hll,-List.map_take];done)
 have:i=n.blocks.length:=by simp at h2;omega
 subst this;clear ih hll;simp only[go_sem];refine B4 (λ i:Nat=>⟨[(1,.ptr 1 0),(3,.ref 23 0 (n.blocks.length+i) (n.blocks.length+i)),(5,.p (.int .i64 (i:Nat)))],[(1,.box (Nt.cs n)),(23,.arr 9 1 (Cw (n.blocks.map Eh.name++(n.spurs.take i).map C5.name)))],66⟩) (λ i=>i<=n.spurs.length) (λ i=>n.spurs.length - i) 0 (AD _) (Wk.forget (by simp[ZF,Nt.cs,Cw])) ?_;rintro i m2 D7 ih;have hll:(Cw (n.blocks.map Eh.name++(n.spurs.take i).map C5.name)).length=n.blocks.length+i:=by rw[B3];simp;omega
 simp only[go_sem,Nt.cs,Cd];refine Cv (λ h2=>?_) (λ h2=>?_)
 . have Cr:i<n.spurs.length:=by simp at h2;omega
   have hw:=Ca i (by omega);have hgb:=Eo n.spurs i Cr;have C0:(0:Int)<=(i:Int)/\(i:Int)<(n.spurs.length:Int):=by omega
   simp only[go_sem,Cd,Nt.cs,Ab,hgb,C0,hll];refine ⟨⟨Dq _ _ rfl,by omega⟩,?_⟩;simp only[go_sem,hw];refine ih (i+1) _ Cr (by omega) ?_
   (refine Wk.forget ?_;simp[ZF,Nt.cs,Oc C5.name n.spurs i Co Cr,Dx,<-List.append_assoc,Nat.add_assoc,hll,-List.map_take];done)
 have:i=n.spurs.length:=by simp at h2;omega
 subst this;clear ih hll;rw[Ar,show n.blocks.map Eh.name++n.spurs.map C5.name=L from hL,<-hLl];simp only[go_sem];have hP:IA n↔∀i,i<L.length->CY (L.getD i [])=true/\∀k,k<i->L.getD i []≠L.getD k []:=by unfold IA;rw[hL]
 refine B4 (λ i:Nat=>⟨[(3,.ref 23 0 L.length L.length),(6,.p (.int .i64 (i:Nat)))],[(23,.arr 9 1 (Cw L))],66⟩) (λ i=>i<=L.length/\∀j,j<i->CY (L.getD j [])=true/\∀k,k<j->L.getD j []≠L.getD k []) (λ i=>L.length - i) 0 ⟨AD _,λ j hj=>absurd hj (AZ _)⟩ (Wk.forget (by simp[ZF,Nt.cs,Cw])) ?_;rintro i m3 ⟨hi3,Dw⟩ ih;simp only[go_sem,B3];refine Cv (λ h3=>?_) (λ h3=>?_);rotate_left
 . simp only[go_sem];have:i=L.length:=by simp at h3;omega
   subst this;rw[Ag (hP.2 Dw)];try simp
 have Cr:i<L.length:=by simp at h3;omega
 have hw:=Ca i (by omega);have Iw:=Dz L i Cr;have C0:(0:Int)<=(i:Int)/\(i:Int)<(L.length:Int):=by omega
 simp only[go_sem,B3,Ab,Iw,C0];refine Cq ((PF _)) ?_;cases hn:CY (L.getD i [])
 . simp only[go_sem,hn];rw[Ah (λ hp=>by have:=(hP.1 hp i Cr).1;rw[hn] at this;cases this)];try simp
 simp only[go_sem,hn];refine B4 (λ k:Nat=>⟨[(3,.ref 23 0 L.length L.length),(6,.p (.int .i64 (i:Nat))),(7,.p (.int .i64 (k:Nat)))],[(23,.arr 9 1 (Cw L))],66⟩) (λ k=>k<=i/\∀j,j<k->L.getD i []≠L.getD j []) (λ k=>i - k) 0 ⟨AD _,λ j hj=>absurd hj (AZ _)⟩ (Wk.forget (by simp[ZF,Cw])) ?_;rintro k m4 ⟨hk,Dl⟩ HG;simp only[go_sem];refine Cv (λ h4=>?_) (λ h4=>?_)
 . have JR:k<i:=by simp at h4;omega
   have Hb:=Ca k (by omega);have L5:=Dz L k (by omega);have G5:(0:Int)<=(k:Int)/\(k:Int)<(L.length:Int):=by omega
   simp only[go_sem];refine Di [(23,.arr 9 1 (Cw L))] mixed (p:=[(0,0),(1,0),(2,0),(3,0),(4,0),(5,0),(6,0),(7,0),(8,0)]) (by kernel_rfl) (by simp[C3,get]) ?_;simp only[go_sem,B3,Ab,Iw,C0,L5,G5];cases he:decide (L.getD i []=L.getD k [])
   . simp only[go_sem,he,Hb];refine HG (k+1) _ ⟨JR,λ j hj=>?_⟩ (by omega) ?_
     . rcases AF.1 hj with h5 | rfl
       . exact Dl j h5
       . exact Ae he
     . (refine Wk.forget ?_;simp[ZF];done)
   . simp only[go_sem,he];rw[Ah (λ hp=>(hP.1 hp i Cr).2 k JR (Ad he))];try simp
 . have:k=i:=by simp at h4;omega
   subst this;simp only[go_sem,hw];refine ih (k+1) _ ⟨Cr,λ j hj=>?_⟩ (by omega) ?_
   . rcases AF.1 hj with h5 | rfl
     . exact Dw j h5
     . exact ⟨hn,Dl⟩
   . (refine Wk.forget ?_;simp[ZF];done)
def IJ(cq ca cd cp:Int):Prop:=1<=cq/\cq<=8/\0<=ca/\ca<=4/\0<=cd/\cd<=3/\1<=cp/\cp<=16
instance (cq ca cd cp:Int):Decidable (IJ cq ca cd cp):=by unfold IJ;exact inferInstance
theorem Vy(cq ca cd cp:Int):B1 prog 85 [.agg [.p (.int .i64 cq),.p (.int .i64 ca),.p (.int .i64 cd),.p (.int .i64 cp)]] [] λ h r=>h=[]/\r= .p (.bool (decide (IJ cq ca cd cp))):=by
 refine B0 func85 rfl ZI (by simp[Tryz.f85]) ?_;by_cases h1:1<=cq;rotate_left
 . simp only[go_sem,h1];simp[IJ,h1]
 by_cases h2:cq<=8;rotate_left
 . simp only[go_sem,h1,h2];simp[IJ,h2]
 by_cases h3:0<=ca;rotate_left
 . simp only[go_sem,h1,h2,h3];simp[IJ,h3]
 by_cases h4:ca<=4;rotate_left
 . simp only[go_sem,h1,h2,h3,h4];simp[IJ,h4]
 by_cases h5:0<=cd;rotate_left
 . simp only[go_sem,h1,h2,h3,h4,h5];simp[IJ,h5]
 by_cases h6:cd<=3;rotate_left
 . simp only[go_sem,h1,h2,h3,h4,h5,h6];simp[IJ,h6]
 by_cases h7:1<=cp;rotate_left
 . simp only[go_sem,h1,h2,h3,h4,h5,h6,h7];simp[IJ,h7]
 by_cases h8:cp<=16
 . simp only[go_sem,h1,h2,h3,h4,h5,h6,h7,h8];simp[IJ,h1,h2,h3,h4,h5,h6,h7,h8]
 . simp only[go_sem,h1,h2,h3,h4,h5,h6,h7,h8];simp[IJ,h8]
theorem GP(l:List Bool):(C1 l).length=l.length:=by simp[C1]
theorem DX{α:Type}(l:List α)(i j:Nat)(x y:α):(l.set i x).getD j y=if i=j/\i<l.length then x else l.getD j y:=by
 simp only[List.getD,BR];by_cases h:i=j
 . subst h;by_cases h2:i<l.length
   . simp[h2]
   . simp[h2]
 . simp[h]
def Kv(g:List (List Int))(sh:List Bool)(d:Int)(v:Nat)(o:List Int):List Int:=
 if sh.getD v false=true∨0<=o.getD v 0 then o else if (g.getD v []).any (λ w=>decide (o.getD w.toNat 0=d - 1))=true then o.set v d else o
def Jo(g:List (List Int))(sh:List Bool)(d:Int):Nat->Nat->List Int->List Int
 | 0,_,o=>o
 | f+1,v,o=>Jo g sh d f (v+1) (Kv g sh d v o)
def J4(g:List (List Int))(sh:List Bool):Nat->Nat->List Int->List Int
 | 0,_,o=>o
 | f+1,d,o=>J4 g sh f (d+1) (Jo g sh d g.length 0 o)
def Dn(g:List (List Int))(sh:List Bool)(goal:Nat):List Int:=
 if sh.getD goal false=true then List.replicate g.length (-1) else J4 g sh (g.length - 1) 1 ((List.replicate g.length (-1)).set goal 0)
theorem Adh(g:List (List Int))(sh:List Bool)(d:Int)(v:Nat)(o:List Int):(Kv g sh d v o).length=o.length:=by
 unfold Kv;split
 . rfl
 . split<;>simp
theorem VF(g:List (List Int))(sh:List Bool)(d:Int):∀(f v:Nat) (o:List Int),(Jo g sh d f v o).length=o.length
 | 0,_,_=>rfl
 | f+1,v,o=>by rw[Jo,VF g sh d f,Adh]
theorem WJ(g:List (List Int))(sh:List Bool):∀(f d:Nat) (o:List Int),(J4 g sh f d o).length=o.length
 | 0,_,_=>rfl
 | f+1,d,o=>by rw[J4,WJ g sh f,VF]
theorem NQ(g:List (List Int))(sh:List Bool)(goal:Nat):(Dn g sh goal).length=g.length:=by
 unfold Dn;split
 . simp
 . rw[WJ];simp
def DP(g:List (List Int))(goal:Nat)(m:Int)(o:List Int):Prop:=
 o.length=g.length/\∀v,v<g.length->o.getD v 0=-1∨(o.getD v 0=0/\v=goal)∨(1<=o.getD v 0/\o.getD v 0<=m/\∃w∈g.getD v [],o.getD w.toNat 0=o.getD v 0 - 1)
theorem Yy{g:List (List Int)}(hg:D0 g){sh:List Bool}{goal:Nat}{d:Int}{v:Nat}{o:List Int}(hv:v<g.length)(hd:1<=d)(h:DP g goal d o):DP g goal d (Kv g sh d v o):=by
 unfold Kv;split
 . exact h
 rename_i h1;split
 . rename_i h2;obtain ⟨hl,hh⟩:=h;have Aqv:o.getD v 0<0:=by
     rcases Int.lt_or_le (o.getD v 0) 0 with h3 | h3
     . exact h3
     . exact absurd (Or.inr h3) h1
   refine ⟨by simpa using hl,λ u hu=>?_⟩;rw[AU] at h2;obtain ⟨w,hw,hwd⟩:=h2;have hwd:=Ad hwd;have EM:∀j,j<g.length->(o.set v d).getD j 0=if v=j then d else o.getD j 0:=λ j hj=>by
     rw[DX];by_cases e:v=j
     . rw[if_pos ⟨e,by omega⟩,if_pos e]
     . rw[if_neg (λ h=>e h.1),if_neg e]
   have Ml:∀u,u<g.length->∀w∈g.getD u [],0<=w/\w<(g.length:Int)/\w≠(u:Int):=λ u hu w hw=>by
     obtain ⟨k,hk,rfl⟩:=AA.1 hw;have:=hg.2 u hu k hk;unfold Jz at this;have e1:(g.getD u []).getD k 0=(g.getD u [])[k]:=getD_eq hk;rw[e1] at this;exact ⟨this.1,this.2.1,this.2.2.1⟩
   rw[EM u hu];by_cases e:v=u
   . subst e;rw[if_pos rfl];have h3:=Ml v hv w hw;refine .inr (.inr ⟨hd,Bz _,w,hw,?_⟩);rw[EM _ (by omega),if_neg (by omega)];exact hwd
   . rw[if_neg e];rcases hh u hu with h3 | h3 | ⟨h3,h4,w2,h5,h6⟩
     . exact .inl h3
     . exact .inr (.inl h3)
     . refine .inr (.inr ⟨h3,h4,w2,h5,?_⟩);have h7:=Ml u hu w2 h5;rw[EM _ (by omega)];by_cases e2:v=w2.toNat
       . rw[e2] at Aqv;omega
       . rw[if_neg e2];exact h6
 . exact h
theorem S2{g:List (List Int)}(hg:D0 g){sh:List Bool}{goal:Nat}{d:Int}(hd:1<=d):∀(f v:Nat) (o:List Int),v+f<=g.length->DP g goal d o->DP g goal d (Jo g sh d f v o)
 | 0,_,_,_,h=>h
 | f+1,v,o,hv,h=>S2 hg hd f (v+1) _ (by omega) (Yy hg (by omega) hd h)
theorem DP.mono{g:List (List Int)}{goal:Nat}{m m':Int}{o:List Int}(hm:m<=m')(h:DP g goal m o):DP g goal m' o:=
 ⟨h.1,λ v hv=>by
   rcases h.2 v hv with h3 | h3 | ⟨h3,h4,h5⟩
   . exact .inl h3
   . exact .inr (.inl h3)
   . exact .inr (.inr ⟨h3,by omega,h5⟩)⟩
theorem Z9{g:List (List Int)}(hg:D0 g){sh:List Bool}{goal:Nat}:∀(f d:Nat) (o:List Int),1<=d->DP g goal d o->DP g goal (d+f:Nat) (J4 g sh f d o)
 | 0,d,o,_,h=>h.mono (by omega)
 | f+1,d,o,hd,h=>by
   have:=Z9 (sh:=sh) hg f (d+1) (Jo g sh d g.length 0 o) (by omega) ((S2 hg (by omega) g.length 0 o (by omega) h).mono (by omega));rw[show d+1+f=d+(f+1) by omega] at this;exact this
theorem ZZ{g:List (List Int)}(hg:D0 g)(sh:List Bool)(goal:Nat)(ER:goal<g.length):DP g goal 24 (Dn g sh goal):=by
 have Afb:∀v,v<g.length->(List.replicate g.length (-1:Int)).getD v 0=-1:=λ v hv=>by simp[List.getD,hv]
 unfold Dn;split
 . exact ⟨by simp,λ v hv=> .inl (Afb v hv)⟩
 . refine (Z9 hg (g.length - 1) 1 _ (Ai _) ⟨by simp,λ v hv=>?_⟩).mono (by have:=hg.1;omega);rw[DX];by_cases e:goal=v
   . rw[if_pos ⟨e,by simpa using ER⟩];exact .inr (.inl ⟨rfl,e.symm⟩)
   . rw[if_neg (λ h=>e h.1)];exact .inl (Afb v hv)
theorem Tj{g:List (List Int)}(hg:D0 g){u:Nat}(hu:u<g.length){k:Nat}(hk:k<(g.getD u []).length):∃w:Nat,(g.getD u []).getD k 0=(w:Int)/\w<g.length/\w≠u:=by
 have:=hg.2 u hu k hk;unfold Jz at this;exact ⟨((g.getD u []).getD k 0).toNat,by omega,by omega,by omega⟩
def Db:List C5->Int
 | []=>0
 | s::r=>s.Cs+Db r
theorem DY(l:List C5)(s:C5):Db (l++[s])=Db l+s.Cs:=by
 induction l with
 | nil=>simp[Db]
 | cons x r ih=>simp only[A5,Db,ih];omega
def L0(nb:Nat)(b:Int)(s:C5):Prop:=0<=s.HA/\s.HA<(nb:Int)/\0<=s.out/\s.out<(nb:Int)/\1<=s.Cs/\s.Cs<=4/\s.base=b
instance (nb:Nat) (b:Int) (s:C5):Decidable (L0 nb b s):=by unfold L0;exact inferInstance
def Md(x:Int)(s:C5):Bool:=s.Cz&&(decide (s.base<=x)&&decide (x<s.base+s.Cs))
def Eu(nb:Nat)(l:List C5):Prop:=∀i,i<l.length->L0 nb (nb+Db (l.take i)) (l.getD i Co)
instance (nb:Nat) (l:List C5):Decidable (Eu nb l):=by unfold Eu;exact inferInstance
def EE(sp:List C5)(l:List Int):Prop:=∀i,i<l.length->sp.any (Md (l.getD i 0))=true/\l.getD i 0∉l.take i
instance (sp:List C5) (l:List Int):Decidable (EE sp l):=by unfold EE;exact inferInstance
def validN(n:Nt):Prop:=I7 n/\n.spurs.length<=6/\IA n/\n.B5.length<=8/\IJ n.cq n.ca n.cd n.cp/\Eu n.blocks.length n.spurs/\EE n.spurs n.B5/\0<(n.spurs.filter C5.Cz).length
instance (n:Nt):Decidable (validN n):=by unfold validN;exact inferInstance
theorem Ie(nb:Nat)(l:List C5)(k:Nat)(hk:k<=l.length)(h:∀j,j<k->L0 nb (nb+Db (l.take j)) (l.getD j Co)):0<=Db (l.take k)/\Db (l.take k)<=4*k:=by
 induction k with
 | zero=>simp[Db]
 | succ k ih=>
   have h1:=ih (by omega) (λ j hj=>h j (by omega));have h2:=h k (by omega);rw[CI l k Co (by omega),DY];obtain ⟨_,_,_,_,h5,h6,_⟩:=h2;omega
def Jp(n:Nt):Prop:=n.blocks.length<=10000000/\QQ n.next/\n.spurs.length<=10000000/\n.B5.length<=10000000
theorem QL(n:Nt)(hsm:Jp n):B1 prog 46 [.agg n.cs] [] λ h r=>h=[]/\r= .p (.bool (decide (validN n))):=by
 have hB:=Ai1 n hsm.1 hsm.2.1;have hN:=Ak8 n hsm.1 hsm.2.2.1;have hC:=Vy n.cq n.ca n.cd n.cp;obtain ⟨_,_,Lg,Hy⟩:=hsm;refine B0 func46 rfl Amv (by simp[Tryz.f46]) ?_;simp only[go_sem,Nt.cs];refine Cq ((hB)) ?_;cases d1:decide (I7 n)
 . simp only[go_sem,d1];rw[Ah (λ hp=>Ae d1 hp.1)]
 cases d2:decide (6<(n.spurs.length:Int));rotate_left
 . simp only[go_sem,Nt.cs,Cd,d1,d2];rw[Ah (λ hp=>by have:=hp.2.1;have:=Ad d2;omega)]
 simp only[go_sem,Nt.cs,Cd,d1,d2];refine Cq ((hN)) ?_;cases d3:decide (IA n)
 . simp only[go_sem,d3];rw[Ah (λ hp=>Ae d3 hp.2.2.1)]
 cases d4:decide (8<(n.B5.length:Int));rotate_left
 . simp only[go_sem,Nt.cs,BW,d3,d4];rw[Ah (λ hp=>by have:=hp.2.2.2.1;have:=Ad d4;omega)]
 simp only[go_sem,Nt.cs,BW,d3,d4];refine Cq ((hC)) ?_;cases d5:decide (IJ n.cq n.ca n.cd n.cp)
 . simp only[go_sem,d5];rw[Ah (λ hp=>Ae d5 hp.2.2.2.2.1)]
 simp only[go_sem,Nt.cs,Cf,d5];clear hB hN hC;have e1:=Ad d1;have e2:=Ae d2;have e3:=Ad d3;have e4:=Ae d4;have e5:=Ad d5;clear d1 d2 d3 d4 d5;have Ab2:n.blocks.length<=24:=e1.2.1;refine B4 (λ i:Nat=>⟨[(1,.ptr 1 0),(3,.p (.int .i64 ((n.blocks.length:Int)+Db (n.spurs.take i)))),(4,.p (.int .i64 (((n.spurs.take i).filter C5.Cz).length:Nat))),(5,.p (.int .i64 (i:Nat)))],[(1,.box (Nt.cs n))],163⟩)
   (λ i=>i<=n.spurs.length/\∀j,j<i->L0 n.blocks.length (n.blocks.length+Db (n.spurs.take j)) (n.spurs.getD j Co)) (λ i=>n.spurs.length - i) 0 ⟨AD _,λ j hj=>absurd hj (AZ _)⟩ (Wk.forget (by simp[ZF,Nt.cs,Db])) ?_
 rintro i m ⟨hi,Dw⟩ ih;simp only[go_sem,Nt.cs,Cd];refine Cv (λ h2=>?_) (λ h2=>?_)
 . have Cr:i<n.spurs.length:=by simp at h2;omega
   have hw:=Ca i (by omega);have hg:=Eo n.spurs i Cr;have C0:(0:Int)<=(i:Int)/\(i:Int)<(n.spurs.length:Int):=by omega
   have Al0:=Ie n.blocks.length n.spurs i hi Dw;have JV:¬L0 n.blocks.length (n.blocks.length+Db (n.spurs.take i)) (n.spurs.getD i Co)->decide (validN n)=false:=λ h=>Ah (λ hp=>h (hp.2.2.2.2.2.1 i Cr));have Oj:L0 n.blocks.length (n.blocks.length+Db (n.spurs.take i)) (n.spurs.getD i Co)->∀j,j<i+1->L0 n.blocks.length (n.blocks.length+Db (n.spurs.take j)) (n.spurs.getD j Co):=λ h j hj=>by
     rcases AF.1 hj with h3 | rfl
     . exact Dw j h3
     . exact h
   have QB:=CI n.spurs i Co Cr;have P3:((n.spurs.take i).filter C5.Cz).length<=i:=by
     refine Br (List.length_filter_le _ _) ?_;simp;omega
   generalize n.spurs.getD i Co=s at*;obtain ⟨nm,dp,HA,out,sl,bs⟩:=s;simp only[L0] at JV Oj;generalize hS:Db (n.spurs.take i)=S at*;generalize hD:((n.spurs.take i).filter C5.Cz).length=dn at*;cases c1:decide (HA<0);rotate_left
   . simp only[go_sem,Nt.cs,Cd,Cf,Ab,hg,C0,c1];rw[JV (λ hp=>by have:=Ad c1;omega)]
   cases c2:decide ((n.blocks.length:Int)<=HA);rotate_left
   . simp only[go_sem,Nt.cs,Cd,Cf,Ab,hg,C0,c1,c2];rw[JV (λ hp=>by have:=Ad c2;omega)]
   cases c3:decide (out<0);rotate_left
   . simp only[go_sem,Nt.cs,Cd,Cf,Ab,hg,C0,c1,c2,c3];rw[JV (λ hp=>by have:=Ad c3;omega)]
   cases c4:decide ((n.blocks.length:Int)<=out);rotate_left
   . simp only[go_sem,Nt.cs,Cd,Cf,Ab,hg,C0,c1,c2,c3,c4];rw[JV (λ hp=>by have:=Ad c4;omega)]
   cases c5:decide (sl<1);rotate_left
   . simp only[go_sem,Nt.cs,Cd,Cf,Ab,hg,C0,c1,c2,c3,c4,c5];rw[JV (λ hp=>by have:=Ad c5;omega)]
   cases c6:decide (4<sl);rotate_left
   . simp only[go_sem,Nt.cs,Cd,Cf,Ab,hg,C0,c1,c2,c3,c4,c5,c6];rw[JV (λ hp=>by have:=Ad c6;omega)]
   cases c7:decide (bs=(n.blocks.length:Int)+S)
   . simp only[go_sem,Nt.cs,Cd,Cf,Ab,hg,C0,c1,c2,c3,c4,c5,c6,c7];rw[JV (λ hp=>by have:=Ae c7;omega)]
   have hsl:1<=sl/\sl<=4:=by have:=Ae c5;have:=Ae c6;omega
   have Yf:IntKind.i64.wrap ((n.blocks.length:Int)+S+sl)=(n.blocks.length:Int)+S+sl:=by rw[B2]<;>omega
   have PZ:=Oj (by have:=Ae c1;have:=Ae c2;have:=Ae c3;have:=Ae c4;have:=Ad c7;omega);have hwd:=Ca dn (by omega);cases dp
   . simp only[go_sem,Nt.cs,Cd,Cf,Ab,hg,C0,c1,c2,c3,c4,c5,c6,c7,Yf,hw];refine ih (i+1) _ ⟨Cr,PZ⟩ (by omega) ?_
     (refine Wk.forget ?_;simp[ZF,Nt.cs,QB,DY,hS,hD,Int.add_assoc];done)
   . simp only[go_sem,Nt.cs,Cd,Cf,Ab,hg,C0,c1,c2,c3,c4,c5,c6,c7,Yf,hw,hwd];refine ih (i+1) _ ⟨Cr,PZ⟩ (by omega) ?_
     (refine Wk.forget ?_;simp[ZF,Nt.cs,QB,DY,hS,hD,Int.add_assoc];done)
 have:i=n.spurs.length:=by simp at h2;omega
 subst this;have Iq:Eu n.blocks.length n.spurs:=Dw;rw[Ar];have Auv:∀k,k<n.spurs.length->0<=(n.spurs.getD k Co).base/\(n.spurs.getD k Co).base<=1000/\1<=(n.spurs.getD k Co).Cs/\(n.spurs.getD k Co).Cs<=4:=λ k hk=>by
   have h3:=Iq k hk;have h4:=Ie n.blocks.length n.spurs k (by omega) (λ j hj=>Iq j (by omega));obtain ⟨_,_,_,_,h5,h6,h7⟩:=h3;omega
 clear ih Dw;generalize hD:(n.spurs.filter C5.Cz).length=dn;simp only[go_sem];refine B4 (λ i:Nat=>⟨[(1,.ptr 1 0),(4,.p (.int .i64 (dn:Nat))),(7,.p (.int .i64 (i:Nat)))],[(1,.box (Nt.cs n))],163⟩)
   (λ i=>i<=n.B5.length/\∀j,j<i->n.spurs.any (Md (n.B5.getD j 0))=true/\n.B5.getD j 0∉n.B5.take j) (λ i=>n.B5.length - i) 0 ⟨AD _,λ j hj=>absurd hj (AZ _)⟩ (Wk.forget (by simp[ZF,Nt.cs])) ?_
 rintro i m2 ⟨D7,Dw⟩ ih;simp only[go_sem,Nt.cs,BW];refine Cv (λ h3=>?_) (λ h3=>?_);rotate_left
 . simp only[go_sem];have:i=n.B5.length:=by simp at h3;omega
   subst this;have hv:decide (validN n)=decide (0<(dn:Int)):=by
     by_cases hdn:0<dn
     . rw[Ag (show validN n from ⟨e1,by omega,e3,by omega,e5,Iq,Dw,by rw[hD];exact hdn⟩),Ag (by omega)]
     . rw[Ah (λ hp:validN n=>hdn (by have:=hp.2.2.2.2.2.2.2;rw[hD] at this;exact this)),Ah (by omega)]
   rw[hv];try simp
 have Cr:i<n.B5.length:=by simp at h3;omega
 have hw:=Ca i (by omega);have hgr:=Ch n.B5 i Cr;have C0:(0:Int)<=(i:Int)/\(i:Int)<(n.B5.length:Int):=by omega
 have JV:¬(n.spurs.any (Md (n.B5.getD i 0))=true/\n.B5.getD i 0∉n.B5.take i)->decide (validN n)=false:=λ h=>Ah (λ hp=>h (hp.2.2.2.2.2.2.1 i Cr));have Oj:(n.spurs.any (Md (n.B5.getD i 0))=true/\n.B5.getD i 0∉n.B5.take i)->∀j,j<i+1->n.spurs.any (Md (n.B5.getD j 0))=true/\n.B5.getD j 0∉n.B5.take j:=λ h j hj=>by
   rcases AF.1 hj with h3 | rfl
   . exact Dw j h3
   . exact h
 generalize n.B5.getD i 0=x at hgr JV Oj;simp only[go_sem];refine B4 (λ k:Nat=>⟨[(1,.ptr 1 0),(4,.p (.int .i64 (dn:Nat))),(7,.p (.int .i64 (i:Nat))),(8,.p (.bool ((n.spurs.take k).any (Md x)))),(9,.p (.int .i64 (k:Nat)))],[(1,.box (Nt.cs n))],163⟩)
   (λ k=>k<=n.spurs.length) (λ k=>n.spurs.length - k) 0 (AD _) (Wk.forget (by simp[ZF,Nt.cs])) ?_
 rintro k m3 hk HG;simp only[go_sem,Nt.cs,Cd];refine Cv (λ h4=>?_) (λ h4=>?_)
 . have JR:k<n.spurs.length:=by simp at h4;omega
   have Hb:=Ca k (by omega);have L5:=Eo n.spurs k JR;have G5:(0:Int)<=(k:Int)/\(k:Int)<(n.spurs.length:Int):=by omega
   have hb:=Auv k JR;have QB:=CI n.spurs k Co JR;generalize n.spurs.getD k Co=s at*;obtain ⟨nm,dp,HA,out,sl,bs⟩:=s;simp only at hb;have Yf:IntKind.i64.wrap (bs+sl)=bs+sl:=by rw[B2]<;>omega
   have han:(n.spurs.take (k+1)).any (Md x)=((n.spurs.take k).any (Md x)||(dp&&(decide (bs<=x)&&decide (x<bs+sl)))):=by
     rw[QB,List.any_append];simp[Md]
   generalize (n.spurs.take k).any (Md x)=ok at*;simp only[go_sem,Nt.cs,Cd,Ab,L5,G5];refine CH mixed (p:=[(0,0),(1,0),(2,0),(3,0),(4,0),(5,0),(6,0),(7,0),(8,0),(9,0),(10,0),(11,0),(12,0),(13,0),(14,0),(15,0),(16,0),(17,0),(18,0),(19,0),(20,0),(21,0),(22,0),(23,0),(24,0),(25,0),(26,0),(27,0),(28,0)]) (by kernel_rfl) (by simp[C3,get]) ?_;cases ok;rotate_left
   . simp only[go_sem,Nt.cs,Hb];refine HG (k+1) _ JR (by omega) ?_
     (refine Wk.forget ?_;simp[ZF,Nt.cs,han];done)
   cases dp
   . simp only[go_sem,Nt.cs,Hb];refine HG (k+1) _ JR (by omega) ?_
     (refine Wk.forget ?_;simp[ZF,Nt.cs,han];done)
   cases c1:decide (bs<=x)
   . simp only[go_sem,Nt.cs,BW,Ab,hgr,C0,c1,Hb];refine HG (k+1) _ JR (by omega) ?_
     (refine Wk.forget ?_;simp[ZF,Nt.cs,han,c1];done)
   cases c2:decide (x<bs+sl)
   . simp only[go_sem,Nt.cs,BW,Ab,hgr,C0,c1,Yf,c2,Hb];refine HG (k+1) _ JR (by omega) ?_
     (refine Wk.forget ?_;simp[ZF,Nt.cs,han,c1,c2];done)
   . simp only[go_sem,Nt.cs,BW,Ab,hgr,C0,c1,Yf,c2,Hb];refine HG (k+1) _ JR (by omega) ?_
     (refine Wk.forget ?_;simp[ZF,Nt.cs,han,c1,c2];done)
 have:k=n.spurs.length:=by simp at h4;omega
 subst this;rw[Ar];simp only[go_sem];refine CH mixed (p:=[(0,0),(1,0),(2,0),(3,0),(4,0),(5,0),(6,0),(7,0),(8,0),(9,0),(10,0),(11,0),(12,2),(13,0)]) (by kernel_rfl) (by simp[C3,get]) ?_;cases ho:n.spurs.any (Md x)
 . simp only[go_sem,ho];rw[JV (λ hp=>by rw[ho] at hp;cases hp.1)]
 simp only[go_sem,Nt.cs,BW,Ab,hgr,C0,ho,LM];refine ⟨⟨by omega,by simp[JS,BY]⟩,?_⟩;refine Gq ((MU (n.B5.take i) x (by simp;omega))) ?_;cases hh:decide (x∈n.B5.take i)
 . simp only[go_sem,hh,hw];refine ih (i+1) _ ⟨Cr,Oj ⟨ho,Ae hh⟩⟩ (by omega) ?_
   (refine Wk.forget ?_;simp[ZF,Nt.cs];done)
 . simp only[go_sem,hh];rw[JV (λ hp=>hp.2 (Ad hh))]
theorem any_take_succ{α:Type}(p:α->Bool)(l:List α)(k:Nat)(x:α)(h:k<l.length):(l.take (k+1)).any p=((l.take k).any p||p (l.getD k x)):=by
 rw[CI l k x h,List.any_append];simp
theorem K3(l:List Int)(i:Nat):((BY l)[i]?.getD []).tail=[]:=by
 unfold BY;rw[AQ];cases l[i]?<;>rfl
theorem XP(g:List (List Int))(sh:List Bool)(goal:Nat)(hg:D0 g)(J1:sh.length=g.length)(ER:goal<g.length):
   B1 prog 123 [.p (.sl (Cj g)),.p (.sl (C1 sh)),.p (.int .i64 (goal:Nat))] [] λ h r=>h=[]/\r= .p (.sl (BY (Dn g sh goal))):=by
 have hlen:=hg.1;refine B0 func123 rfl Agi (by simp[Tryz.f123]) ?_;simp only[go_sem,Cb];refine ⟨by omega,?_⟩;refine B4 (λ q:Nat×List Int=>⟨[(0,.p (.sl (Cj g))),(1,.p (.sl (C1 sh))),(2,.p (.int .i64 (goal:Nat))),(7,.ref 14 0 g.length g.length),(8,.p (.int .i64 (q.1:Nat)))],[(14,.arr 3 1 (BY q.2))],82⟩)
   (λ q=>q.1<=g.length/\q.2.length=g.length/\∀j,j<q.1->q.2.getD j 0=-1) (λ q=>g.length - q.1) (0,List.replicate g.length 0) ⟨AD _,by simp,λ j hj=>absurd hj (AZ _)⟩ (Wk.forget (by simp[ZF,BY])) ?_
 rintro ⟨i,o⟩ m ⟨hi,ho,hm⟩ ih;simp only at hi ho hm;simp only[go_sem,Cb];refine Cv (λ h2=>?_) (λ h2=>?_)
 . have Cr:i<g.length:=by simp at h2;omega
   have hw:=Ca i (by omega);have C0:(0:Int)<=(i:Int)/\(i:Int)<(g.length:Int):=by omega
   simp only[go_sem,BW,ho,Ab,C0,hw];refine ih (i+1,o.set i (-1)) _ ⟨Cr,by simpa using ho,λ j hj=>?_⟩ (by simp only;omega) ?_
   . rw[DX];by_cases e:i=j
     . rw[if_pos ⟨e,by omega⟩]
     . rw[if_neg (λ h=>e h.1)];exact hm j (by omega)
   . (refine Wk.forget ?_;simp[ZF,Dd,K3];done)
 have Wf:i=g.length:=by simp at h2;omega
 subst Wf;have hoe:o=List.replicate g.length (-1):=by
   refine List.ext_getElem (by simp[ho]) λ j h3 h4=>?_;have:=hm j (by omega);rw[getD_eq h3] at this
   simpa using this
 subst hoe;clear ih hm;have Bbk:=GQ sh goal (by omega);have hg0:(0:Int)<=(goal:Int)/\(goal:Int)<(g.length:Int):=by omega
 simp only[go_sem,GP,J1,Ab,Bbk,hg0];cases hs:sh.getD goal false;rotate_left
 . simp only[go_sem,hs];refine BX ?_;simp only[go_sem];unfold Dn;rw[if_pos hs];simp[BY]
 simp only[go_sem,hs,BW,BB,Ab,hg0];have hdv:Dn g sh goal=J4 g sh (g.length - 1) 1 ((List.replicate g.length (-1)).set goal 0):=by unfold Dn;rw[if_neg (by rw[hs];simp)]
 refine B4 (λ q:Nat×List Int=>⟨[(0,.p (.sl (Cj g))),(1,.p (.sl (C1 sh))),(7,.ref 14 0 g.length g.length),(9,.p (.int .i64 (q.1:Nat)))],[(14,.arr 3 1 (BY q.2))],82⟩)
   (λ q=>1<=q.1/\q.1<=24/\q.2.length=g.length/\J4 g sh (g.length - q.1) q.1 q.2=Dn g sh goal) (λ q=>g.length - q.1) (1,(List.replicate g.length (-1)).set goal 0) ⟨Ai _,by omega,by simp,hdv.symm⟩ (Wk.forget (by simp[ZF,Dd,K3])) ?_
 rintro ⟨d,o⟩ m2 ⟨N8,Bbt,ho,he⟩ ih;simp only at N8 Bbt ho he;simp only[go_sem,Cb];refine Cv (λ h3=>?_) (λ h3=>?_);rotate_left
 . simp only[go_sem];refine BX ?_;simp only[go_sem];have:g.length - d=0:=by simp at h3;omega
   rw[this] at he;simp only[J4] at he;rw[<-he,AE (by rw[BW];omega)];try simp[BW,ho]
 have hdt:d<g.length:=by simp at h3;omega
 have hwd:=Ca d (by omega);have hwp:IntKind.i64.wrap ((d:Int) - 1)=(d:Int) - 1:=by rw[B2]<;>omega
 rw[show g.length - d=(g.length - (d+1))+1 by omega] at he;simp only[J4] at he;generalize hT:Jo g sh d g.length 0 o=T at he;simp only[go_sem];refine B4 (λ q:Nat×List Int=>⟨[(0,.p (.sl (Cj g))),(1,.p (.sl (C1 sh))),(7,.ref 14 0 g.length g.length),(9,.p (.int .i64 (d:Nat))),(10,.p (.int .i64 (q.1:Nat)))],[(14,.arr 3 1 (BY q.2))],82⟩)
   (λ q=>q.1<=g.length/\q.2.length=g.length/\Jo g sh d (g.length - q.1) q.1 q.2=T) (λ q=>g.length - q.1) (0,o) ⟨AD _,ho,hT⟩ (Wk.forget (by simp[ZF])) ?_
 rintro ⟨v,o1⟩ m3 ⟨hv,p8,he1⟩ ih1;simp only at hv p8 he1;simp only[go_sem,Cb];refine Cv (λ h4=>?_) (λ h4=>?_);rotate_left
 . have:g.length - v=0:=by simp at h4;omega
   rw[this] at he1;simp only[Jo] at he1;simp only[go_sem,hwd];refine ih (d+1,o1) _ ⟨by omega,by omega,p8,by rw[he1];exact he⟩ (by simp only;omega) ?_
   (refine Wk.forget ?_;simp[ZF];done)
 have Xx:v<g.length:=by simp at h4;omega
 have Xv:=Ca v (by omega);rw[show g.length - v=(g.length - (v+1))+1 by omega] at he1;simp only[Jo] at he1;have QD:=GQ sh v (by omega);have hgo:=Ch o1 v (by omega);have Pl:(0:Int)<=(v:Int)/\(v:Int)<(g.length:Int):=by omega
 cases c1:sh.getD v false;rotate_left
 . simp only[go_sem,GP,BW,J1,p8,Ab,QD,hgo,Pl,c1,Xv];refine ih1 (v+1,o1) _ ⟨Xx,p8,?_⟩ (by simp only;omega) ?_
   . rw[<-he1];unfold Kv;rw[if_pos (.inl c1)]
   . (refine Wk.forget ?_;simp[ZF];done)
 cases c2:decide (0<=o1.getD v 0);rotate_left
 . simp only[go_sem,GP,BW,J1,p8,Ab,QD,hgo,Pl,c1,c2,Xv];refine ih1 (v+1,o1) _ ⟨Xx,p8,?_⟩ (by simp only;omega) ?_
   . rw[<-he1];unfold Kv;rw[if_pos (.inr (Ad c2))]
   . (refine Wk.forget ?_;simp[ZF];done)
 simp only[go_sem,GP,BW,J1,p8,Ab,QD,hgo,Pl,c1,c2];have MN:Kv g sh d v o1=if (g.getD v []).any (λ w=>decide (o1.getD w.toNat 0=(d:Int) - 1))=true then o1.set v d else o1:=by
   unfold Kv;rw[if_neg (by
     rintro (h | h)
     . rw[c1] at h;cases h
     . exact Ae c2 h)]
 rw[MN] at he1;have Dj:∀k,k<(g.getD v []).length->∃w:Nat,(g.getD v []).getD k 0=(w:Int)/\w<g.length/\w≠v:=λ k hk=>Tj hg Xx hk;have Yh:(g.getD v []).length<=24:=by
   have hP:=hg.2 v Xx;have key:∀k,k<=(g.getD v []).length->∀j,j<k->(j:Int)<=(g.getD v []).getD j 0:=by
     intro k
     induction k with
     | zero=>intro _ j hj;omega
     | succ k ihk=>
       intro hk j hj;rcases AF.1 hj with h5 | rfl
       . exact ihk (by omega) j h5
       . have h6:=hP j (by omega);unfold Jz at h6;rcases j with _ | j
         . exact h6.1
         . have h7:=ihk (by omega) j (by omega);have h8:=h6.2.2.2 (by omega);rw[show j+1 - 1=j from rfl] at h8;omega
   rcases BT (g.getD v []).length with h5 | h5
   . omega
   . have h6:=key _ (Ai _) ((g.getD v []).length - 1) (by omega);obtain ⟨w,h7,h8,_⟩:=Dj ((g.getD v []).length - 1) (by omega);omega
 have hgv:=Gi g v Xx;generalize g.getD v []=row at*;clear MN c1 c2 QD hgo;refine B4 (λ k:Nat=>⟨[(0,.p (.sl (Cj g))),(1,.p (.sl (C1 sh))),(7,.ref 14 0 g.length g.length),(9,.p (.int .i64 (d:Nat))),(10,.p (.int .i64 (v:Nat))),(11,.p (.int .i64 (k:Nat)))],
     [(14,.arr 3 1 (BY (if (row.take k).any (λ w=>decide (o1.getD w.toNat 0=(d:Int) - 1))=true then o1.set v d else o1)))],82⟩)
   (λ k=>k<=row.length) (λ k=>row.length - k) 0 (AD _) (Wk.forget (by simp[ZF])) ?_
 rintro k m4 hk HG;simp only[go_sem,Cb,BW,Ab,hgv,Pl];refine Cv (λ h5=>?_) (λ h5=>?_);rotate_left
 . have:k=row.length:=by simp at h5;omega
   subst this;rw[Ar];clear HG;generalize row.any (λ w=>decide (o1.getD w.toNat 0=(d:Int) - 1))=an at*;simp only[go_sem,Xv];refine ih1 (v+1,if an=true then o1.set v d else o1) _ ⟨Xx,?_,he1⟩ (by simp only;omega) ?_
   . simp only;split<;>simp[p8]
   . (refine Wk.forget ?_;simp[ZF];done)
 have JR:k<row.length:=by simp at h5;omega
 have Hb:=Ca k (by omega);obtain ⟨w,hw,hwl,Bas⟩:=Dj k JR;have L5:=Ch row k JR;rw[hw] at L5;have G5:(0:Int)<=(k:Int)/\(k:Int)<(row.length:Int):=by omega
 have Lf:(0:Int)<=(w:Int)/\(w:Int)<(g.length:Int):=by omega
 have QB:=any_take_succ (λ w=>decide (o1.getD w.toNat 0=(d:Int) - 1)) row k 0 JR;rw[hw] at QB;simp only[Ab] at QB;generalize (row.take k).any (λ w=>decide (o1.getD w.toNat 0=(d:Int) - 1))=an at*;have Wc:(if an=true then o1.set v d else o1).length=g.length:=by split<;>simp[p8]
 have hgw:=Ch (if an=true then o1.set v d else o1) w (by omega);have Bbj:(if an=true then o1.set v d else o1).getD w 0=o1.getD w 0:=by
   split
   . rw[DX,if_neg (λ h=>Bas h.1.symm)]
   . rfl
 rw[Bbj] at hgw;have EM:(if an=true then o1.set v d else o1).set v d=o1.set v d:=by split<;>simp
 generalize hq:(if an=true then o1.set v d else o1)=q at*;simp only[go_sem,Cb,BW,Ab,hgv,Pl,L5,G5,Wc,hgw,Lf,hwp];cases c3:decide (o1.getD w 0=(d:Int) - 1)
 . simp only[go_sem,c3,Hb];refine HG (k+1) _ JR (by omega) ?_;rw[QB,c3,Bool.or_false,hq]
   (refine Wk.forget ?_;simp[ZF];done)
 . simp only[go_sem,c3,Hb,BW,Wc,Ab,Pl];refine HG (k+1) _ JR (by omega) ?_;rw[QB,c3,Bool.or_true,if_pos rfl,<-EM,Dd]
   (refine Wk.forget ?_;simp[ZF,K3];done)
theorem Aht(g:List (List Int))(sh:List Bool)(hg:QQ g):B1 prog 68 [.p (.sl (Cj g)),.p (.sl (C1 sh))] [] λ h r=>h=[]/\r= .p (.int .i64 (if D0 g then (if sh.length=g.length then 0 else 19) else 20)):=by
 refine B0 func68 rfl Amf (by simp[Tryz.f68]) ?_;simp only[go_sem];refine Cq ((Ade g hg)) ?_;cases c1:decide (D0 g)
 . simp only[go_sem,c1];rw[if_neg (Ae c1)]
 simp only[go_sem,c1,GP,Cb];rw[if_pos (Ad c1)];cases c2:decide ((sh.length:Int)=(g.length:Int))
 . simp only[go_sem,c2];rw[if_neg (λ h=>Ae c2 (by omega))]
 . simp only[go_sem,c2];rw[if_pos (by have:=Ad c2;omega)]
def Aaz(g:List (List Int))(D:List Int)(v:Nat):Int:=if 0<D.getD v 0 then ((g.getD v []).find? (λ w=>decide (D.getD w.toNat 0=D.getD v 0 - 1))).getD (-1) else -1
theorem NP{g:List (List Int)}(hg:D0 g)(sh:List Bool){goal:Nat}(ER:goal<g.length){v:Nat}(hv:v<g.length):-1<=(Dn g sh goal).getD v 0/\(Dn g sh goal).getD v 0<=24:=by
 rcases (ZZ hg sh goal ER).2 v hv with h | h | h<;>omega
theorem Nu{g:List (List Int)}(hg:D0 g){u:Nat}(hu:u<g.length):(g.getD u []).length<=24:=by
 have hP:=hg.2 u hu;have key:∀k,k<=(g.getD u []).length->∀j,j<k->(j:Int)<=(g.getD u []).getD j 0:=by
   intro k
   induction k with
   | zero=>intro _ j hj;omega
   | succ k ihk=>
     intro hk j hj;rcases AF.1 hj with h5 | rfl
     . exact ihk (by omega) j h5
     . have h6:=hP j (by omega);unfold Jz at h6;rcases j with _ | j
       . exact h6.1
       . have h7:=ihk (by omega) j (by omega);have h8:=h6.2.2.2 (by omega);rw[show j+1 - 1=j from rfl] at h8;omega
 have hl:=hg.1;rcases BT (g.getD u []).length with h5 | h5
 . omega
 . have h6:=key _ (Ai _) ((g.getD u []).length - 1) (by omega);obtain ⟨w,h7,h8,_⟩:=Tj hg hu (k:=(g.getD u []).length - 1) (by omega);omega
def jm1(j:Nat):Int:=(j:Int) - 1
theorem Aqu(g:List (List Int))(sh:List Bool)(goal:Nat)(hg:D0 g)(J1:sh.length=g.length)(ER:goal<g.length):
   B1 prog 156 [.p (.sl (Cj g)),.p (.sl (C1 sh)),.p (.int .i64 (goal:Nat))] [] λ h r=>h=[]/\∃o:List Int,r= .p (.sl (BY o))/\o.length=g.length/\∀v,v<g.length->o.getD v 0=Aaz g (Dn g sh goal) v:=by
 have hlen:=hg.1;have hDl:=NQ g sh goal;have hDr:∀v,v<g.length->-1<=(Dn g sh goal).getD v 0/\(Dn g sh goal).getD v 0<=24:=λ v hv=>NP hg sh ER hv;have hd:=XP g sh goal hg J1 ER;refine B0 func156 rfl Ag1 (by simp[Tryz.f156]) ?_;simp only[go_sem];refine Cq ((hd)) ?_;generalize Dn g sh goal=ds at*;clear hd;simp only[go_sem,Cb];refine ⟨by omega,?_⟩;refine B4 (λ q:Nat×List Int=>⟨[(0,.p (.sl (Cj g))),(7,.p (.sl (BY ds))),(8,.ref 18 0 g.length g.length),(9,.p (.int .i64 (q.1:Nat)))],[(18,.arr 3 1 (BY q.2))],67⟩)
   (λ q=>q.1<=g.length/\q.2.length=g.length/\∀v,v<q.1->q.2.getD v 0=Aaz g ds v) (λ q=>g.length - q.1) (0,List.replicate g.length 0) ⟨AD _,by simp,λ j hj=>absurd hj (AZ _)⟩ (Wk.forget (by simp[ZF,BY])) ?_
 rintro ⟨v,o⟩ m ⟨hv,ho,Dw⟩ ih;simp only at hv ho Dw;simp only[go_sem,Cb];refine Cv (λ h2=>?_) (λ h2=>?_);rotate_left
 . simp only[go_sem];refine BX ?_;simp only[go_sem];have:v=g.length:=by simp at h2;omega
   subst this;refine ⟨by rw[BW];omega,o,?_,ho,Dw⟩;rw[AE (by rw[BW];omega)]
 have Xx:v<g.length:=by simp at h2;omega
 have Xv:=Ca v (by omega);have Pl:(0:Int)<=(v:Int)/\(v:Int)<(g.length:Int):=by omega
 have hgv:=Gi g v Xx;have Dj:∀k,k<(g.getD v []).length->∃w:Nat,(g.getD v []).getD k 0=(w:Int)/\w<g.length/\w≠v:=λ k hk=>Tj hg Xx hk;have Yh:=Nu hg Xx;have hDv:=Ch ds v (by omega);have hDvr:=hDr v Xx;have hhv:Aaz g ds v=if 0<ds.getD v 0 then ((g.getD v []).find? (λ w=>decide (ds.getD w.toNat 0=ds.getD v 0 - 1))).getD (-1) else -1:=rfl
 generalize g.getD v []=row at*;generalize hdv:ds.getD v 0=dv at*;have hwl:IntKind.i64.wrap ((row.length:Int) - 1)=jm1 row.length:=by unfold jm1;rw[B2]<;>omega
 simp only[go_sem,Cb,BW,ho,Ab,Pl,hgv,hwl];refine B4 (λ j:Nat=>⟨[(0,.p (.sl (Cj g))),(7,.p (.sl (BY ds))),(8,.ref 18 0 g.length g.length),(9,.p (.int .i64 (v:Nat))),(10,.p (.int .i64 (jm1 j)))],
     [(18,.arr 3 1 (BY (o.set v (((row.drop j).find? (λ w=>decide (ds.getD w.toNat 0=dv - 1))).getD (-1)))))],67⟩)
   (λ j=>j<=row.length/\(j=row.length∨0<dv)) (λ j=>j) row.length ⟨Ai _,.inl rfl⟩ (Wk.forget (by simp[ZF,Dd,K3,A2])) ?_
 rintro j m2 ⟨hj,hjd⟩ HG;have EM:∀x,∀u,u<v+1->x=Aaz g ds v->(o.set v x).getD u 0=Aaz g ds u:=λ x u hu hx=>by
   rw[DX];by_cases e:v=u
   . subst e;rw[if_pos ⟨rfl,by omega⟩];exact hx
   . rw[if_neg (λ h=>e h.1)];exact Dw u (by omega)
 rcases j with _ | j
 . have hz:¬(0:Int)<=jm1 0:=by unfold jm1;omega
   simp only[go_sem,hz,Xv];refine ih (v+1,o.set v ((row.find? (λ w=>decide (ds.getD w.toNat 0=dv - 1))).getD (-1))) _ ⟨Xx,by simp[ho],λ u hu=>EM _ u hu ?_⟩ (by simp only;omega) ?_
   . rw[hhv];rcases hjd with h3 | h3
     . have:row=[]:=List.length_eq_zero_iff.1 h3.symm;subst this;simp
     . rw[if_pos h3]
   . (refine Wk.forget ?_;simp[ZF];done)
 . have hj1:jm1 (j+1)=(j:Int):=by unfold jm1;omega
   have hjn:(0:Int)<=(j:Int):=by omega
   have Ye:IntKind.i64.wrap ((j:Int) - 1)=jm1 j:=by unfold jm1;rw[B2]<;>omega
   cases c1:decide (0<dv)
   . have hjl:j+1=row.length:=by
       rcases hjd with h3 | h3
       . exact h3
       . exact absurd h3 (Ae c1)
     have P4:row.drop (j+1)=[]:=by rw[hjl];simp
     rw[P4];simp only[go_sem,hj1,hjn,BW,hDl,Ab,Pl,hDv,c1,Xv];refine ih (v+1,o.set v (-1)) _ ⟨Xx,by simp[ho],λ u hu=>EM _ u hu ?_⟩ (by simp only;omega) ?_
     . rw[hhv,if_neg (Ae c1)]
     . (refine Wk.forget ?_;simp[ZF];done)
   have Zs:j<row.length:=by omega
   obtain ⟨w,hw,hwl2,hwne⟩:=Dj j Zs;have hgj:=Ch row j Zs;rw[hw] at hgj;have Vm:(0:Int)<=(j:Int)/\(j:Int)<(row.length:Int):=by omega
   have Lf:(0:Int)<=(w:Int)/\(w:Int)<(g.length:Int):=by omega
   have hDw:=Ch ds w (by omega);have hwd:IntKind.i64.wrap (dv - 1)=dv - 1:=by rw[B2]<;>omega
   have Ol:row.drop j=(w:Int)::row.drop (j+1):=by rw[C8 row j 0 Zs,hw]
   simp only[go_sem,hj1,hjn,BW,Cb,hDl,Ab,Pl,hDv,c1,hgv,hgj,Vm];refine CH mixed (p:=[(0,0),(1,0),(2,0),(3,0),(4,0),(5,0),(6,0),(7,0),(8,0),(9,0)]) (by kernel_rfl) (by simp[C3,get]) ?_;simp only[go_sem,BW,hDl,Ab,Pl,hDv,hDw,Lf,hwd];cases c2:decide (ds.getD w 0=dv - 1)
   . simp only[go_sem,c2,Ye];refine HG j _ ⟨by omega,.inr (Ad c1)⟩ (by omega) ?_;rw[Ol,List.find?_cons_of_neg (by simp only[Ab];simpa using Ae c2)]
     (refine Wk.forget ?_;simp[ZF];done)
   . simp only[go_sem,c2,Ye,BW,A0,ho,Ab,Pl];refine HG j _ ⟨by omega,.inr (Ad c1)⟩ (by omega) ?_;rw[Ol,List.find?_cons_of_pos (by simp only[Ab];exact c2)];generalize ((row.drop (j+1)).find? (λ w=>decide (ds.getD w.toNat 0=dv - 1))).getD (-1)=y0;rw[show o.set v ((some (w:Int)).getD (-1))=(o.set v y0).set v (w:Int) by simp,Dd (o.set v y0)]
     (refine Wk.forget ?_;simp[ZF,K3];done)
theorem Yq(l:List Int):JS 1 (BY l):=by
 intro e he;unfold BY at he;obtain ⟨x,_,rfl⟩:=AT.1 he;rfl
theorem Al5{g:List (List Int)}(hg:D0 g)(sh:List Bool){goal cur:Nat}(ER:goal<g.length)(hc:cur<g.length)(Dl:cur≠goal)(h0:0<=(Dn g sh goal).getD cur 0):
   ∃w:Nat,Aaz g (Dn g sh goal) cur=(w:Int)/\w<g.length/\(Dn g sh goal).getD w 0=(Dn g sh goal).getD cur 0 - 1/\1<=(Dn g sh goal).getD cur 0:=by
 have hdp:=(ZZ hg sh goal ER).2 cur hc;generalize Dn g sh goal=ds at*;rcases hdp with h | h | ⟨h1,h2,w,h3,h4⟩
 . omega
 . exact absurd h.2 Dl
 . unfold Aaz;rw[if_pos (by omega)];have hs:((g.getD cur []).find? (λ w=>decide (ds.getD w.toNat 0=ds.getD cur 0 - 1))).isSome:=by
     rw[List.find?_isSome];exact ⟨w,h3,Ag h4⟩
   obtain ⟨u,hu⟩:=Bu.1 hs;have hm:=List.mem_of_find?_eq_some hu;have hp:ds.getD u.toNat 0=ds.getD cur 0 - 1:=by have:=List.find?_some hu;simpa using this
   obtain ⟨k,hk,hku⟩:=AA.1 hm;obtain ⟨x,IB,HH,_⟩:=Tj hg hc hk;rw[getD_eq hk,hku] at IB;rw[hu];subst IB;exact ⟨x,rfl,HH,by simpa using hp,h1⟩
theorem Alv(g:List (List Int))(sh:List Bool)(src goal:Nat)(hg:D0 g)(J1:sh.length=g.length)(ER:goal<g.length)(Afa:src<g.length)(h0:0<=(Dn g sh goal).getD src 0):
   B1 prog 124 [.p (.sl (Cj g)),.p (.sl (C1 sh)),.p (.int .i64 (src:Nat)),.p (.int .i64 (goal:Nat))] [] λ h r=>h=[]/\∃o:List Int,r= .p (.sl (BY o))/\1<=o.length/\o.length<=26:=by
 have hDl:=NQ g sh goal;have Axf:∀cur,cur<g.length->cur≠goal->0<=(Dn g sh goal).getD cur 0->_:=λ cur hc Dl h=>Al5 hg sh ER hc Dl h;have Al0:=(NP hg sh ER Afa).2;have hd:=XP g sh goal hg J1 ER;have hh:=Aqu g sh goal hg J1 ER;refine B0 func124 rfl Agh (by simp[Tryz.f124]) ?_;simp only[go_sem];refine Cq ((hd)) ?_;generalize Dn g sh goal=ds at*;clear hd;have hDv:=Ch ds src (by omega);have p7:(0:Int)<=(src:Int)/\(src:Int)<(g.length:Int):=by omega
 have Aqv:¬ds.getD src 0<0:=by omega
 simp only[go_sem,BW,hDl,Ab,hDv,p7,Aqv];refine Ec hh ?_;rintro h' r ⟨rfl,hp,rfl,hpl,hpv⟩;simp only[go_sem];refine B4 (λ q:Nat×List Int=>⟨[(2,.p (.int .i64 (q.1:Nat))),(3,.p (.int .i64 (goal:Nat))),(9,.p (.sl (BY hp))),(10,.ref 24 0 q.2.length q.2.length)],[(24,.arr 3 1 (BY q.2))],37⟩)
   (λ q=>q.1<g.length/\0<=ds.getD q.1 0/\1<=q.2.length/\(q.2.length:Int)+ds.getD q.1 0<=25) (λ q=>(ds.getD q.1 0).toNat) (src,[(src:Int)]) ⟨Afa,h0,Ai _,by show ((1:Nat):Int)+ds.getD src 0<=25;omega⟩ (Wk.forget (by simp[ZF,BY])) ?_
 rintro ⟨cur,o⟩ m ⟨hc,Wg,p8,UZ⟩ ih;simp only at hc Wg p8 UZ;simp only[go_sem];cases c1:decide ((cur:Int)=(goal:Int))
 . have Dl:cur≠goal:=λ e=>Ae c1 (by rw[e]);obtain ⟨w,Xw,hw2,hw3,hw4⟩:=Axf cur hc Dl Wg;have hgc:=Ch hp cur (by omega);rw[hpv cur hc,Xw] at hgc;have U1:(0:Int)<=(cur:Int)/\(cur:Int)<(g.length:Int):=by omega
   simp only[go_sem,c1,BW,hpl,Ab,hgc,U1];refine ⟨⟨Dq _ _ rfl,by omega⟩,?_⟩;refine ih (w,o++[(w:Int)]) _ ⟨hw2,by simp only;omega,by simp,by show (((o++[(w:Int)]).length:Nat):Int)+ds.getD w 0<=25;rw[Aq,List.length_singleton];omega⟩ (by simp only;omega) ?_
   (refine Wk.forget ?_;simp[ZF,DN,BW];done)
 . simp only[go_sem,c1];refine BX ?_;simp only[go_sem];refine ⟨by rw[BW],o,?_,p8,by omega⟩;rw[Gt _ _ (Ai _)]
theorem u6(g:List (List Int))(sh:List Bool)(v:Nat)(hg:D0 g)(J1:sh.length=g.length)(hv:v<g.length):
   B1 prog 86 [.p (.sl (Cj g)),.p (.sl (C1 sh)),.p (.int .i64 (v:Nat))] [] λ h r=>h=[]/\∃o:List Int,r= .p (.sl (BY o))/\o.length<=30:=by
 have hDl:=NQ g sh v;have hd:=XP g sh v hg J1 hv;have hf:=λ src hs h0=>Alv g sh src v hg J1 hv hs h0;have QD:=GQ sh v (by omega);have Pl:(0:Int)<=(v:Int)/\(v:Int)<(g.length:Int):=by omega
 refine B0 func86 rfl Am1 (by simp[Tryz.f86]) ?_;simp only[go_sem,GP,J1,Ab,QD,Pl];cases hs:sh.getD v false;rotate_left
 . simp only[go_sem,hs];refine BX ?_;simp only[go_sem];exact ⟨[],rfl,by simp⟩
 simp only[go_sem,hs];refine Cq ((hd)) ?_;generalize Dn g sh v=ds at*;clear hd hs QD;have Dj:∀k,k<(g.getD v []).length->∃w:Nat,(g.getD v []).getD k 0=(w:Int)/\w<g.length/\w≠v:=λ k hk=>Tj hg hv hk;have Yh:=Nu hg hv;have hgv:=Gi g v hv;generalize g.getD v []=row at*;simp only[go_sem];refine B4 (λ q:Nat×Int=>⟨[(0,.p (.sl (Cj g))),(1,.p (.sl (C1 sh))),(2,.p (.int .i64 (v:Nat))),(7,.p (.sl (BY ds))),(8,.p (.int .i64 q.2)),(9,.p (.int .i64 (q.1:Nat)))],[],72⟩)
   (λ q=>q.1<=row.length/\(q.2=-1∨∃b:Nat,q.2=(b:Int)/\b<g.length/\0<=ds.getD b 0)) (λ q=>row.length - q.1) (0,-1) ⟨AD _,.inl rfl⟩ (Wk.forget (by simp[ZF])) ?_
 rintro ⟨k,bst⟩ m ⟨hk,hb⟩ ih;simp only at hk hb;simp only[go_sem,Cb,BW,Ab,hgv,Pl];refine Cv (λ h3=>?_) (λ h3=>?_)
 . have JR:k<row.length:=by simp at h3;omega
   have Hb:=Ca k (by omega);obtain ⟨w,hw,hwl,_⟩:=Dj k JR;have L5:=Ch row k JR;rw[hw] at L5;have G5:(0:Int)<=(k:Int)/\(k:Int)<(row.length:Int):=by omega
   have Lf:(0:Int)<=(w:Int)/\(w:Int)<(g.length:Int):=by omega
   have hDw:=Ch ds w (by omega);simp only[go_sem,Cb,BW,Ab,hgv,Pl,L5,G5];refine CH mixed (p:=[(0,0),(1,0),(2,0),(3,0),(4,0),(5,0),(6,0),(7,0),(8,0),(9,0),(10,0),(11,0),(12,0),(13,0),(14,0),(15,0),(16,0),(17,0),(18,0),(19,0)]) (by kernel_rfl) (by simp[C3,get]) ?_;cases c1:decide (0<=ds.getD w 0)
   . simp only[go_sem,BW,hDl,Ab,hDw,Lf,c1,Hb];refine ih (k+1,bst) _ ⟨JR,hb⟩ (by simp only;omega) ?_
     (refine Wk.forget ?_;simp[ZF];done)
   have hnw:∃b:Nat,(w:Int)=(b:Int)/\b<g.length/\0<=ds.getD b 0:=⟨w,rfl,hwl,Ad c1⟩;rcases hb with rfl | ⟨b,rfl,XF,hb0⟩
   . simp only[go_sem,BW,hDl,Ab,hDw,Lf,c1,Hb];refine ih (k+1,(w:Int)) _ ⟨JR,.inr hnw⟩ (by simp only;omega) ?_
     (refine Wk.forget ?_;simp[ZF];done)
   . have hDb:=Ch ds b (by omega);have hbi:(0:Int)<=(b:Int)/\(b:Int)<(g.length:Int):=by omega
     have hbn:¬(b:Int)<0:=by omega
     cases c2:decide (ds.getD w 0<ds.getD b 0)
     . simp only[go_sem,BW,hDl,Ab,hDw,Lf,c1,hbn,hDb,hbi,c2,Hb];refine ih (k+1,(b:Int)) _ ⟨JR,.inr ⟨b,rfl,XF,hb0⟩⟩ (by simp only;omega) ?_
       (refine Wk.forget ?_;simp[ZF];done)
     . simp only[go_sem,BW,hDl,Ab,hDw,Lf,c1,hbn,hDb,hbi,c2,Hb];refine ih (k+1,(w:Int)) _ ⟨JR,.inr hnw⟩ (by simp only;omega) ?_
       (refine Wk.forget ?_;simp[ZF];done)
 . rcases hb with rfl | ⟨b,rfl,XF,hb0⟩
   . simp only[go_sem];refine BX ?_;simp only[go_sem];exact ⟨[],rfl,by simp⟩
   . have hbn:¬(b:Int)<0:=by omega
     simp only[go_sem,hbn];refine Ec (hf b XF hb0) ?_;rintro h' r ⟨rfl,o,rfl,p8,UZ⟩;have hwo:IntKind.i64.wrap ((o.length:Int) - 1)=((o.length - 1:Nat):Int):=by rw[B2]<;>omega
     simp only[go_sem,BW,hwo,Ab,LM];have htl:(o.take (o.length - 1)).length<=o.length:=by simp
     refine ⟨⟨by omega,Yq _⟩,?_⟩;refine ⟨⟨Yq _,by omega⟩,?_⟩;refine BX ?_;simp only[go_sem];refine ⟨?_,(v:Int)::o.take (o.length - 1),?_,by simp;omega⟩
     . simp[BY]
     . simp[BY,List.take_take]
theorem All(g:List (List Int))(sh:List Bool)(hg:D0 g)(hsm:QQ g)(J1:sh.length=g.length):
   B1 prog 47 [.p (.sl (Cj g)),.p (.sl (C1 sh))] [] λ h r=>h=[]/\∃o:List Int,r= .Dr [.p (.int .i64 (o.length:Nat)),.p (.sl (BY o)),.p (.int .i64 0)]/\o.length<=30:=by
 have ht:=λ v hv=>u6 g sh v hg J1 hv;have hl:=hg.1;refine B0 func47 rfl Amu (by simp[Tryz.f47]) ?_;simp only[go_sem];refine Cq ((Aht g sh hsm)) ?_;rw[if_pos hg,if_pos J1];simp only[go_sem];refine B4 (λ q:Nat×List Int=>⟨[(0,.p (.sl (Cj g))),(1,.p (.sl (C1 sh))),(8,.p (.sl (BY q.2))),(9,.p (.int .i64 (q.1:Nat)))],[],46⟩)
   (λ q=>q.1<=g.length/\q.2.length<=30) (λ q=>g.length - q.1) (0,[]) ⟨AD _,by simp⟩ ((Wk.nil (t:=8) (q:=42) (sz:=1) 3 rfl rfl (by decide)).trans ((Wk.pure (t:=8) (id:=42) (sz:=1) (e:=3) (es:=[]) rfl rfl).trans (Wk.forget (by simp[ZF,BY])))) ?_
 rintro ⟨v,bst⟩ m ⟨hv,hb⟩ ih;simp only at hv hb;simp only[go_sem,Cb];refine Cv (λ h3=>?_) (λ h3=>?_)
 . have Xx:v<g.length:=by simp at h3;omega
   have Xv:=Ca v (by omega);simp only[go_sem];refine Ec (ht v Xx) ?_;rintro h' r ⟨rfl,o,rfl,ho⟩;simp only[go_sem,BW];cases c1:decide (0<(o.length:Int))
   . simp only[go_sem,BW,c1,Xv];refine ih (v+1,bst) _ ⟨Xx,hb⟩ (by simp only;omega) ?_
     (refine Wk.forget ?_;simp[ZF];done)
   cases c2:decide ((bst.length:Int)=0);rotate_left
   . simp only[go_sem,BW,c1,c2,Xv];refine ih (v+1,o) _ ⟨Xx,ho⟩ (by simp only;omega) ?_
     (refine Wk.forget ?_;simp[ZF];done)
   cases c3:decide ((o.length:Int)<(bst.length:Int))
   . simp only[go_sem,BW,c1,c2,c3,Xv];refine ih (v+1,bst) _ ⟨Xx,hb⟩ (by simp only;omega) ?_
     (refine Wk.forget ?_;simp[ZF];done)
   . simp only[go_sem,BW,c1,c2,c3,Xv];refine ih (v+1,o) _ ⟨Xx,ho⟩ (by simp only;omega) ?_
     (refine Wk.forget ?_;simp[ZF];done)
 . simp only[go_sem,BW];refine BX ?_;simp only[go_sem];exact ⟨bst,rfl,hb⟩
def cellsV(n:Nt):Int:=(n.blocks.length:Int)+Db n.spurs
theorem VH{nb:Nat}{l:List C5}(h:Eu nb l):∀(k i:Nat),i+k<=l.length->Db (l.take i)<=Db (l.take (i+k))
 | 0,_,_=>Bz _
 | k+1,i,hk=>by
   have h1:=VH h k i (by omega);have h2:=h (i+k) (by omega);obtain ⟨_,_,_,_,h5,_,_⟩:=h2;rw[show i+(k+1)=(i+k)+1 by omega,CI l (i+k) Co (by omega),DY];omega
theorem Mq{nb:Nat}{l:List C5}(h:Eu nb l){i:Nat}(hi:i<l.length):
   (nb:Int)<=(l.getD i Co).base/\(l.getD i Co).base+(l.getD i Co).Cs<=(nb:Int)+Db l/\(l.getD i Co).base=(nb:Int)+Db (l.take i):=by
 obtain ⟨_,_,_,_,h5,h6,h7⟩:=h i hi;have h1:=Ie nb l i (by omega) (λ j hj=>h j (by omega));have h2:=VH h (l.length - (i+1)) (i+1) (by omega);rw[show i+1+(l.length - (i+1))=l.length by omega,Ar,CI l i Co hi,DY] at h2;omega
theorem S4{nb:Nat}{l:List C5}(h:Eu nb l):0<=Db l/\Db l<=4*l.length:=by
 have:=Ie nb l l.length (Ai _) h;rw[Ar] at this;exact this
theorem Aoc(n:Nt)(hn:validN n):B1 prog 49 [.agg n.cs] [] λ h r=>h=[]/\r= .p (.int .i64 (cellsV n)):=by
 obtain ⟨e1,e2,e3,e4,e5,Iq,e7,e8⟩:=hn;have Ab2:=e1.2.1;refine B0 func49 rfl Ams (by simp[Tryz.f49]) ?_;simp only[go_sem,Nt.cs,Cf];refine B4 (λ i:Nat=>⟨[(1,.ptr 1 0),(3,.p (.int .i64 ((n.blocks.length:Int)+Db (n.spurs.take i)))),(4,.p (.int .i64 (i:Nat)))],[(1,.box (Nt.cs n))],24⟩)
   (λ i=>i<=n.spurs.length) (λ i=>n.spurs.length - i) 0 (AD _) (Wk.forget (by simp[ZF,Nt.cs,Db])) ?_
 rintro i m hi ih;simp only[go_sem,Nt.cs,Cd];refine Cv (λ h2=>?_) (λ h2=>?_)
 . have Cr:i<n.spurs.length:=by simp at h2;omega
   have hw:=Ca i (by omega);have hg:=Eo n.spurs i Cr;have C0:(0:Int)<=(i:Int)/\(i:Int)<(n.spurs.length:Int):=by omega
   have hr:=Ie n.blocks.length n.spurs (i+1) Cr (λ j hj=>Iq j (by omega));have QB:Db (n.spurs.take (i+1))=Db (n.spurs.take i)+(n.spurs.getD i Co).Cs:=by rw[CI n.spurs i Co Cr,DY]
   rw[QB] at hr;have Yf:IntKind.i64.wrap ((n.blocks.length:Int)+Db (n.spurs.take i)+(n.spurs.getD i Co).Cs)=(n.blocks.length:Int)+Db (n.spurs.take i)+(n.spurs.getD i Co).Cs:=by rw[B2]<;>omega
   simp only[go_sem,Nt.cs,Cd,Ab,hg,C0,Yf,hw];refine ih (i+1) _ Cr (by omega) ?_
   (refine Wk.forget ?_;simp[ZF,Nt.cs,QB,Int.add_assoc];done)
 . simp only[go_sem];have:i=n.spurs.length:=by simp at h2;omega
   subst this;rw[Ar];rfl
def PA(sh:List Bool)(s:C5):Bool:=!sh.getD s.HA.toNat false&&(!sh.getD s.out.toNat false&&(List.range s.Cs.toNat).all λ j=>!sh.getD (s.base.toNat+j) false)
theorem Aq5(n:Nt)(hn:validN n)(sh:List Bool)(J1:(sh.length:Int)=cellsV n)(s:Nat)(hs:s<n.spurs.length):
   B1 prog 87 [.agg n.cs,.p (.sl (C1 sh)),.p (.int .i64 (s:Nat))] [] λ h r=>h=[]/\r= .p (.bool (PA sh (n.spurs.getD s Co))):=by
 obtain ⟨e1,e2,e3,e4,e5,Iq,e7,e8⟩:=hn;have Ab2:=e1.2.1;obtain ⟨i1,i2,i3,i4,i5,i6,i7⟩:=Iq s hs;obtain ⟨r1,r2,r3⟩:=Mq Iq hs;have Dw:=S4 Iq;have hg:=Eo n.spurs s hs;have p7:(0:Int)<=(s:Int)/\(s:Int)<(n.spurs.length:Int):=by omega
 unfold cellsV at J1;refine B0 func87 rfl Am0 (by simp[Tryz.f87]) ?_;simp only[go_sem,Nt.cs,Cd,Ab,hg,p7];generalize n.spurs.getD s Co=sp at*;clear hg;obtain ⟨nm,dp,HA,out,sl,bs⟩:=sp;simp only at i1 i2 i3 i4 i5 i6 i7 r1 r2 r3;obtain ⟨a,rfl⟩:∃a:Nat,HA=(a:Int):=⟨HA.toNat,by omega⟩;obtain ⟨b,rfl⟩:∃b:Nat,out=(b:Int):=⟨out.toNat,by omega⟩;obtain ⟨c,rfl⟩:∃c:Nat,bs=(c:Int):=⟨bs.toNat,by omega⟩;obtain ⟨d,rfl⟩:∃d:Nat,sl=(d:Int):=⟨sl.toNat,by omega⟩;have ha:=GQ sh a (by omega);have hb:=GQ sh b (by omega);have ha0:(0:Int)<=(a:Int)/\(a:Int)<(sh.length:Int):=by omega
 have hb0:(0:Int)<=(b:Int)/\(b:Int)<(sh.length:Int):=by omega
 have hO:PA sh ⟨nm,dp,a,b,d,c⟩=(!sh.getD a false&&(!sh.getD b false&&(List.range d).all λ j=>!sh.getD (c+j) false)):=by simp[PA]
 cases c1:sh.getD a false;rotate_left
 . simp only[go_sem,GP,Ab,ha,ha0,c1];rw[hO,c1];simp
 cases c2:sh.getD b false;rotate_left
 . simp only[go_sem,GP,Ab,ha,ha0,c1,hb,hb0,c2];rw[hO,c1,c2];simp
 simp only[go_sem,GP,Ab,ha,ha0,c1,hb,hb0,c2];rw[hO,c1,c2];refine B4 (λ j:Nat=>⟨[(1,.p (.sl (C1 sh))),(7,.ptr 7 0),(8,.p (.int .i64 ((c+j:Nat):Int)))],[(7,.box [.p (.str nm),.p (.bool dp),.p (.int .i64 (a:Nat)),.p (.int .i64 (b:Nat)),.p (.int .i64 (d:Nat)),.p (.int .i64 (c:Nat))])],41⟩)
   (λ j=>j<=d/\∀u,u<j->sh.getD (c+u) false=false) (λ j=>d - j) 0 ⟨AD _,λ u hu=>absurd hu (AZ _)⟩ (Wk.forget (by simp[ZF])) ?_
 rintro j m ⟨hj,Asx⟩ ih;have hwe:IntKind.i64.wrap ((c:Int)+(d:Int))=(c:Int)+(d:Int):=by rw[B2]<;>omega
 simp only[go_sem,hwe];refine Cv (λ h2=>?_) (λ h2=>?_)
 . have Zs:j<d:=by simp at h2;omega
   have hw:=Ca (c+j) (by omega);have hgj:=GQ sh (c+j) (by omega);have Vm:(0:Int)<=((c+j:Nat):Int)/\((c+j:Nat):Int)<(sh.length:Int):=by omega
   simp only[go_sem,GP,Ab,hgj,Vm];cases c3:sh.getD (c+j) false
   . simp only[go_sem,c3,hw];refine ih (j+1) _ ⟨Zs,λ u hu=>?_⟩ (by omega) ?_
     . rcases AF.1 hu with h5 | rfl
       . exact Asx u h5
       . exact c3
     . (refine Wk.forget ?_;simp[ZF,Nat.add_assoc];done)
   . simp only[go_sem,c3];have hex:((List.range d).all λ j=>!sh.getD (c+j) false)=false:=by
       rw[List.all_eq_false];exact ⟨j,List.mem_range.2 Zs,by rw[c3];simp⟩
     rw[hex]
 . simp only[go_sem];have:j=d:=by simp at h2;omega
   subst this;have Hf:((List.range j).all λ j=>!sh.getD (c+j) false)=true:=by
     rw[AB];intro u hu;rw[Asx u (List.mem_range.1 hu)];rfl
   rw[Hf]
def slotsV(sh:List Bool):List C5->Int
 | []=>0
 | s::r=>(if s.Cz&&PA sh s then s.Cs else 0)+slotsV sh r
theorem Mr(sh:List Bool)(l:List C5)(s:C5):slotsV sh (l++[s])=slotsV sh l+(if s.Cz&&PA sh s then s.Cs else 0):=by
 induction l with
 | nil=>simp[slotsV]
 | cons x r ih=>simp only[A5,slotsV,ih];omega
theorem OC(sh:List Bool){nb:Nat}{l:List C5}(h:Eu nb l):∀k,k<=l.length->0<=slotsV sh (l.take k)/\slotsV sh (l.take k)<=4*k
 | 0,_=>by simp[slotsV]
 | k+1,hk=>by
   have h1:=OC sh h k (by omega);obtain ⟨_,_,_,_,h5,h6,_⟩:=h k (by omega);rw[CI l k Co (by omega),Mr];split<;>omega
theorem Aj9(n:Nt)(hn:validN n)(sh:List Bool)(J1:(sh.length:Int)=cellsV n):
   B1 prog 48 [.agg n.cs,.p (.sl (C1 sh))] [] λ h r=>h=[]/\r= .p (.int .i64 (slotsV sh n.spurs)):=by
 have hO:=λ s hs=>Aq5 n hn sh J1 s hs;obtain ⟨e1,e2,e3,e4,e5,Iq,e7,e8⟩:=hn;refine B0 func48 rfl Amt (by simp[Tryz.f48]) ?_;simp only[go_sem,Nt.cs];refine B4 (λ i:Nat=>⟨[(1,.p (.sl (C1 sh))),(2,.ptr 2 0),(5,.p (.int .i64 (slotsV sh (n.spurs.take i)))),(6,.p (.int .i64 (i:Nat)))],[(2,.box (Nt.cs n))],35⟩)
   (λ i=>i<=n.spurs.length) (λ i=>n.spurs.length - i) 0 (AD _) (Wk.forget (by simp[ZF,Nt.cs,slotsV])) ?_
 rintro i m hi ih;simp only[go_sem,Nt.cs,Cd];refine Cv (λ h2=>?_) (λ h2=>?_)
 . have Cr:i<n.spurs.length:=by simp at h2;omega
   have hw:=Ca i (by omega);have hg:=Eo n.spurs i Cr;have C0:(0:Int)<=(i:Int)/\(i:Int)<(n.spurs.length:Int):=by omega
   have hr:=OC sh Iq i hi;have QB:slotsV sh (n.spurs.take (i+1))=slotsV sh (n.spurs.take i)+(if (n.spurs.getD i Co).Cz&&PA sh (n.spurs.getD i Co) then (n.spurs.getD i Co).Cs else 0):=by rw[CI n.spurs i Co Cr,Mr]
   have hOi:=hO i Cr;obtain ⟨_,_,_,_,i5,i6,_⟩:=Iq i Cr;generalize n.spurs.getD i Co=s at*;have Yf:IntKind.i64.wrap (slotsV sh (n.spurs.take i)+s.Cs)=slotsV sh (n.spurs.take i)+s.Cs:=by rw[B2]<;>omega
   generalize slotsV sh (n.spurs.take i)=S at*;cases c1:s.Cz
   . simp only[go_sem,Nt.cs,Cd,Ab,hg,C0,c1,hw];refine ih (i+1) _ Cr (by omega) ?_
     (refine Wk.forget ?_;simp[ZF,Nt.cs,QB,c1];done)
   simp only[go_sem,Nt.cs,Cd,Ab,hg,C0,c1];refine Cq ((hOi)) ?_;cases c2:PA sh s
   . simp only[go_sem,c2,hw];refine ih (i+1) _ Cr (by omega) ?_
     (refine Wk.forget ?_;simp[ZF,Nt.cs,QB,c1,c2];done)
   . simp only[go_sem,Nt.cs,Cd,Ab,hg,C0,c1,c2,Yf,hw];refine ih (i+1) _ Cr (by omega) ?_
     (refine Wk.forget ?_;simp[ZF,Nt.cs,QB,c1,c2];done)
 . simp only[go_sem];have:i=n.spurs.length:=by simp at h2;omega
   subst this;rw[Ar]
theorem YC(n:Nat):List.take n (List.replicate n [Pd.bool false])=C1 (List.replicate n false):=by simp[C1]
theorem DG{n:Nt}(hn:validN n):D0 n.next/\QQ n.next/\n.next.length=n.blocks.length:=by
 obtain ⟨⟨h1,h2,h3,h4⟩,_⟩:=hn;refine ⟨⟨by omega,λ i hi=>?_⟩,⟨by omega,λ r hr=>?_⟩,h3⟩
 . rw[h3];exact (h4 i (by omega)).2.2
 . obtain ⟨i,hi,rfl⟩:=AA.1 hr;have:=(h4 i (by omega)).2.1;rw[getD_eq hi] at this;omega
theorem EW{n:Nt}(hn:validN n):Jp n:=by
 have hg:=DG hn;obtain ⟨⟨h1,h2,h3,h4⟩,h5,h6,h7,_⟩:=hn;exact ⟨by omega,hg.2.1,by omega,by omega⟩
theorem Als(n:Nt)(hn:validN n):B1 prog 21 [.agg n.cs] [] λ h r=>h=[]/\∃(o:List Int) (sl cap:Int),r= .Dr [.agg [.p (.int .i64 (o.length:Nat)),.p (.sl (BY o)),.p (.int .i64 sl),.p (.int .i64 cap)],.p (.int .i64 0)]/\cap<=sl/\sl=slotsV (List.replicate (cellsV n).toNat false) n.spurs:=by
 have hV:=QL n (EW hn);rw[Ag hn] at hV;obtain ⟨hg,hsm,N6⟩:=DG hn;have hG:=All n.next (List.replicate n.next.length false) hg hsm (by simp)
 have hC:=Aoc n hn;have hS:=λ (c:Nat) (hc:(c:Int)=cellsV n)=>Aj9 n hn (List.replicate c false) (by simpa using hc);have Iq:=hn.2.2.2.2.2.1;have Ab2:=hn.1.2.1;have hs6:=hn.2.1;have Dw:=S4 Iq;obtain ⟨c,hc⟩:∃c:Nat,cellsV n=(c:Int):=⟨(cellsV n).toNat,by unfold cellsV;omega⟩;have U1:c<=48:=by unfold cellsV at hc;omega
 have hS:=hS c hc.symm;have hsr:=OC (List.replicate c false) Iq n.spurs.length (Ai _);rw[Ar] at hsr;rw[hc] at hC ⊢;rw[Ab];generalize slotsV (List.replicate c false) n.spurs=S at*;rw[N6] at hG;refine B0 func21 rfl Anf (by simp[Tryz.f21]) ?_;simp only[go_sem,Nt.cs];refine Cq ((hV)) ?_;simp only[go_sem,Nt.cs];refine CH mixed (p:=[(0,0),(1,0),(2,0),(3,0),(4,0),(5,1),(6,2),(7,0),(8,0),(9,0),(10,0),(11,0),(12,0),(13,0)]) (by kernel_rfl) (by simp[C3,get]) ?_;simp only[go_sem,Nt.cs,Cf,Ab,BB,YC];refine ⟨by omega,?_⟩;refine Ap6 hG ?_;rintro h' r ⟨rfl,o,rfl,ho⟩;simp only[go_sem,Nt.cs];refine CH mixed (p:=[(0,0),(1,0),(2,0),(3,0),(8,1),(4,2),(5,1),(6,2),(7,0),(9,3)]) (by kernel_rfl) (by simp[C3,get]) ?_;simp only[go_sem,Nt.cs];refine Gq ((hC)) ?_;simp only[go_sem,Nt.cs,Ab,BB,YC];refine ⟨by omega,?_⟩;refine Gq ((hS)) ?_;simp only[go_sem,Nt.cs];cases c1:decide (0<(o.length:Int))
 . simp only[go_sem,c1];refine BX ?_;simp only[go_sem];exact ⟨o,S,S,rfl,Bz _,rfl⟩
 . have Xw:IntKind.i64.wrap ((o.length:Int) - 1)=(o.length:Int) - 1:=by rw[B2]<;>omega
   simp only[go_sem,c1,Xw];refine BX ?_;simp only[go_sem];exact ⟨o,S,_,rfl,by omega,rfl⟩
def RR(s:C5):List Int:=if s.Cz=true then (List.range s.Cs.toNat).map (λ j=>s.base+((j:Nat):Int)) else []
def GG(l:List C5):List Int:=l.flatMap RR
theorem Od(l:List C5)(s:C5):GG (l++[s])=GG l++RR s:=by simp[GG]
theorem VN{s:C5}{x:Int}:x∈RR s↔Md x s=true:=by
 unfold RR Md;by_cases h:s.Cz=true
 . rw[if_pos h,h];simp only[AT,List.mem_range,Ba,As,Au];constructor
   . rintro ⟨j,hj,rfl⟩;omega
   . rintro ⟨h1,h2⟩;exact ⟨(x - s.base).toNat,by omega,by omega⟩
 . have h2:s.Cz=false:=by simpa using h
   rw[if_neg h,h2];simp
theorem YI(s:C5):(RR s).Nodup:=by
 unfold RR;split
 . rw[List.nodup_iff_pairwise_ne,List.pairwise_map];exact (List.pairwise_lt_range).imp λ h=>by omega
 . exact List.nodup_nil
theorem RQ{nb:Nat}{l:List C5}(h:Eu nb l):∀k,k<=l.length->(GG (l.take k)).Nodup/\∀x∈GG (l.take k),x<(nb:Int)+Db (l.take k)
 | 0,_=>by simp[GG]
 | k+1,hk=>by
   obtain ⟨h1,h2⟩:=RQ h k (by omega);have hs:=h k (by omega);rw[CI l k Co (by omega),Od,DY];generalize l.getD k Co=s at*;obtain ⟨_,_,_,_,h5,h6,h7⟩:=hs;have hm:∀x∈RR s,s.base<=x/\x<s.base+s.Cs:=λ x hx=>by
     have:=VN.1 hx;unfold Md at this;simp at this;exact ⟨this.2.1,this.2.2⟩
   refine ⟨?_,λ x hx=>?_⟩
   . rw[BQ];refine ⟨h1,YI s,λ x hx y hy e=>?_⟩;have h8:=h2 x hx;have h9:=hm y hy;omega
   . rcases Av.1 hx with hx | hx
     . have:=h2 x hx;omega
     . have:=hm x hx;omega
theorem Alm(c k:Nat):(List.replicate c false).getD k false=false:=by
 simp only[List.getD,A7];split<;>rfl
theorem Aee(c:Nat)(s:C5):PA (List.replicate c false) s=true:=by
 unfold PA;simp only[Alm];simp
theorem RN{nb:Nat}{l:List C5}(h:Eu nb l)(c:Nat):∀k,k<=l.length->slotsV (List.replicate c false) (l.take k)=((GG (l.take k)).length:Int)
 | 0,_=>by simp[slotsV,GG]
 | k+1,hk=>by
   have h1:=RN h c k (by omega);have hs:=h k (by omega);rw[CI l k Co (by omega),Mr,Od,Aq,h1,Aee];obtain ⟨_,_,_,_,h5,h6,h7⟩:=hs;generalize l.getD k Co=s at*;unfold RR;cases hd:s.Cz
   . simp
   . simp;omega
theorem Afl{nb:Nat}{l:List C5}(h:Eu nb l)(c:Nat){rb:List Int}(hr:(rb.length:Int)<slotsV (List.replicate c false) l):∃s∈l,∃j:Nat,s.Cz=true/\(j:Int)<s.Cs/\s.base+(j:Int)∉rb:=by
 have h1:=RN h c l.length (Ai _);have h2:=(RQ h l.length (Ai _)).1;rw[Ar] at h1 h2;have Dl:¬∀x∈GG l,x∈rb:=λ hh=>by have:=Ak0 _ rb h2 hh;omega
 have:∃x,x∈GG l/\x∉rb:=Classical.byContradiction λ hc=>Dl λ x hx=>Classical.byContradiction λ HH=>hc ⟨x,hx,HH⟩;obtain ⟨x,hx,HH⟩:=this;obtain ⟨s,hs,Iv⟩:=BU.1 hx;have h3:=VN.1 Iv;unfold Md at h3;simp at h3;exact ⟨s,hs,(x - s.base).toNat,h3.1,by omega,by rw[show s.base+(((x - s.base).toNat:Nat):Int)=x by omega];exact HH⟩
def RP(b i:Nat)(r:List Int):Prop:=r.Pairwise (· < ·)/\(∀x∈r,0<=x/\x<(b:Int)/\x≠(i:Int))/\r.length<=4/\(1<b->(((i+1) % b:Nat):Int)∈r)
theorem RP.row{b i:Nat}{r:List Int}(h:RP b i r):Ig b i r:=by
 intro k hk;obtain ⟨h1,h2,_,_⟩:=h;have h3:=h2 _ (CB r k 0 hk);refine ⟨h3.1,h3.2.1,h3.2.2,λ G5=>?_⟩;rw[getD_eq hk,getD_eq (show k - 1<r.length by omega)];exact List.pairwise_iff_getElem.1 h1 (k - 1) k (by omega) hk (by omega)
theorem RP.ins{b i:Nat}{r:List Int}{x:Int}(h:RP b i r)(h0:0<=x)(hb:x<(b:Int))(hi:x≠(i:Int))(hn:x∉r)(hl:r.length<4):RP b i (KR r x):=by
 obtain ⟨h1,h2,h3,h4⟩:=h;refine ⟨Akq r x h1 hn,λ y hy=>?_,by rw[Akp];omega,λ R7=>(TO r x _).2 (.inr (h4 R7))⟩;rcases (TO r x y).1 hy with rfl | hy
 . exact ⟨h0,hb,hi⟩
 . exact h2 y hy
theorem K4(l:List (List Int))(i:Nat):((Cj l)[i]?.getD []).tail=[]:=by
 unfold Cj;rw[AQ];cases l[i]?<;>rfl
theorem Apw(l:List Int)(at_ b:Nat)(bl:List Eh)(nx:List (List Int))(Ji:at_<1000000)(R7:1<=b)(hb:b<=10)(XF:bl.length=b)(hnx:nx.length=b)(Bbp:∀i,i<b->nx.getD i []=[]):
   B1 prog 57 [.ptr 1000000 0,.ptr 1000001 0]
     [(1000000,.box (Dg l at_)),(1000001,.box [.ref 1000002 0 b b,.ref 1000003 0 b b,.cl [],.cl [],.p (.int .i64 0),.p (.int .i64 0),.p (.int .i64 0),.p (.int .i64 0)]),(1000002,.arr 76 3 (CV bl)),(1000003,.arr 22 1 (Cj nx))]
     λ h r=>∃at2 nx2,at2<=at_+20/\nx2.length=b/\(∀i,i<b->RP b i (nx2.getD i []))/\r= .Dr []/\
       h=[(1000000,.box (Dg l at2)),(1000001,.box [.ref 1000002 0 b b,.ref 1000003 0 b b,.cl [],.cl [],.p (.int .i64 0),.p (.int .i64 0),.p (.int .i64 0),.p (.int .i64 0)]),(1000002,.arr 76 3 (CV bl)),(1000003,.arr 22 1 (Cj nx2))]:=by
 refine B0 func57 rfl Amp (by simp[Tryz.f57]) ?_;simp only[go_sem,Dg];refine ⟨by rw[Cf];exact XF.symm,?_⟩;refine B4 (λ q:Nat×List (List Int)=>⟨[(0,.ptr 1000000 0),(1,.ptr 1000001 0),(4,.p (.int .i64 (b:Nat))),(5,.p (.int .i64 (q.1:Nat)))],
     [(1000000,.box [.p (.sl (BY l)),.p (.int .i64 (at_:Nat))]),(1000001,.box [.ref 1000002 0 b b,.ref 1000003 0 b b,.cl [],.cl [],.p (.int .i64 0),.p (.int .i64 0),.p (.int .i64 0),.p (.int .i64 0)]),(1000002,.arr 76 3 (CV bl)),(1000003,.arr 22 1 (Cj q.2))],98⟩)
   (λ q=>q.1<=b/\q.2.length=b/\(∀j,j<q.1->RP b j (q.2.getD j []))/\(∀j,q.1<=j->j<b->q.2.getD j []=[])) (λ q=>b - q.1) (0,nx) ⟨AD _,hnx,λ j hj=>absurd hj (AZ _),λ j _ hj=>Bbp j hj⟩ (Wk.forget (by simp[ZF,Cj])) ?_
 rintro ⟨i,g⟩ m ⟨hi,hgl,Alb,Al1⟩ ih;simp only at hi hgl Alb Al1;cases c1:decide ((i:Int)<(b:Int));rotate_left
 . cases c2:decide (1<(b:Int));rotate_left
   . have hib:i<b:=by have:=Ad c1;omega
     have r7:1<b:=by have:=Ad c2;omega
     have hw:=Ca i (by omega);have Zq:((i+1:Nat):Int).tmod (b:Int)=(((i+1) % b:Nat):Int):=by rw[Int.tmod_eq_emod_of_nonneg (by omega)];omega
     have Dl:¬(b:Int)=0:=by omega
     have C0:(0:Int)<=(i:Int)/\(i:Int)<(b:Int):=by omega
     simp only[go_sem,c1,c2];refine CH mixed (p:=[(0,0),(1,0),(2,0),(3,0),(4,0),(5,0),(6,0),(7,0),(8,0),(9,1),(10,0),(11,3)]) (by kernel_rfl) (by simp[C3,get]) ?_;simp only[go_sem,hw,Zq,Dl,Cb,hgl,Ab,C0];refine ih (i+1,g.set i [(((i+1) % b:Nat):Int)]) _ ⟨hib,by simpa using hgl,λ j hj=>?_,λ j hj hjb=>?_⟩ (by simp only;omega) ?_
     . rw[DX];by_cases e:i=j
       . subst e;rw[if_pos ⟨rfl,by omega⟩];have hm:(i+1) % b<b:=Nat.mod_lt _ (by omega);have SC:(i+1) % b≠i:=by
           intro h;rcases Nat.lt_or_ge (i+1) b with h5 | h5
           . rw[Nat.mod_eq_of_lt h5] at h;omega
           . have:i+1=b:=by omega
             rw[this,Nat.mod_self] at h;omega
         refine ⟨List.pairwise_singleton _ _,λ x hx=>?_,by simp,λ _=>by simp⟩;rw[Aw] at hx;subst hx;omega
       . rw[if_neg (λ h=>e h.1)];exact Alb j (by omega)
     . rw[DX,if_neg (by omega)];exact Al1 j (by omega) hjb
     . (refine Wk.forget ?_;simp[ZF,Na,K4,BY];done)
   . have hb0:b=1:=by have:=Ae c2;omega
     have H7:i=0:=by have:=Ad c1;omega
     have hRP:∀u,u<b->RP b u (g.getD u []):=λ u hu=>by
       rw[Al1 u (by omega) hu];exact ⟨List.Pairwise.nil,λ x hx=>absurd hx (by simp),by simp,λ h=>absurd h (by omega)⟩
     simp only[go_sem,c1,c2];refine Cq ((C6 l at_ 4 (by omega) (CJ _ (by omega) (by omega)))) ?_;obtain ⟨k0,G5,hk4⟩:=CT l at_ 4 (by omega);simp only[go_sem,Dg,G5];refine B4 (λ q:Nat×Nat×List (List Int)=>⟨[(0,.ptr 1000000 0),(1,.ptr 1000001 0),(4,.p (.int .i64 (b:Nat))),(6,.p (.int .i64 (q.1:Nat)))],
         [(1000000,.box [.p (.sl (BY l)),.p (.int .i64 (q.2.1:Nat))]),(1000001,.box [.ref 1000002 0 b b,.ref 1000003 0 b b,.cl [],.cl [],.p (.int .i64 0),.p (.int .i64 0),.p (.int .i64 0),.p (.int .i64 0)]),(1000002,.arr 76 3 (CV bl)),(1000003,.arr 22 1 (Cj q.2.2))],98⟩)
       (λ q=>q.1<=3/\q.2.1<=at_+1+3*(3 - q.1)/\q.2.2.length=b/\∀i,i<b->RP b i (q.2.2.getD i [])) (λ q=>q.1) (k0,at_+1,g) ⟨by simp only;omega,by simp only;omega,hgl,hRP⟩ (Wk.forget (by simp[ZF,Cj])) ?_
     rintro ⟨k,a,g2⟩ m2 ⟨hk3,Hf,EN,Ht⟩ HG;simp only at hk3 Hf EN Ht;cases d1:decide (0<(k:Int))
     . simp only[go_sem,d1];refine Cm ?_;simp only[go_sem];refine ⟨a,g2,by omega,EN,Ht,?_⟩;first | exact ⟨rfl,rfl⟩ | rfl | simp
     cases d2:decide (2<(b:Int))
     . simp only[go_sem,d1,d2];refine Cm ?_;simp only[go_sem];refine ⟨a,g2,by omega,EN,Ht,?_⟩;first | exact ⟨rfl,rfl⟩ | rfl | simp
     have hkp:1<=k:=by have:=Ad d1;omega
     obtain ⟨k,rfl⟩:∃j,k=j+1:=⟨k - 1,by omega⟩;have Hb:=HK k (by omega);have hb3:2<b:=by have:=Ad d2;omega
     have hbz:(0:Int)<(b:Int):=by omega
     obtain ⟨ii,hii,Bbh⟩:=CT l a b hbz;obtain ⟨jj,hjj,Bbg⟩:=CT l (a+1) b hbz;have Kh:(0:Int)<=(ii:Int)/\(ii:Int)<(b:Int):=by omega
     have Iw:=Gi g2 ii (by omega);have hRl:=(Ht ii (by omega)).2.2.1;simp only[go_sem,d1,d2];refine Cq ((C6 l a b (by omega) (CJ _ (by omega) (by omega)))) ?_;simp only[go_sem,Dg,hii];refine Cq ((C6 l (a+1) b (by omega) (CJ _ (by omega) (by omega)))) ?_;simp only[go_sem,Dg,hjj];refine Cq ((C6 l (a+1+1) 3 (by omega) (CJ _ (by omega) (by omega)))) ?_;simp only[go_sem,Dg];have TX:(((ii:Int)+2)).tmod (b:Int)=(((ii+2) % b:Nat):Int):=by
       rw[show (ii:Int)+2=((ii+2:Nat):Int) by omega,Int.tmod_eq_emod_of_nonneg (by omega)];exact (Int.natCast_emod _ _).symm
     have Wb:IntKind.i64.wrap ((ii:Int)+2)=(ii:Int)+2:=by rw[B2]<;>omega
     have Alf:¬(b:Int)=0:=by omega
     have SC:(ii+2) % b<b:=Nat.mod_lt _ (by omega);cases d3:decide (0<ME l (a+1+1) 3)
     . skip
       have hJ0:(0:Int)<=((jj:Nat):Int)/\((jj:Nat):Int)<(b:Int):=by omega
       cases d4:decide ((ii:Int)=((jj:Nat):Int));rotate_left
       . simp only[go_sem,d3,Hb,d4,Hb];refine HG (k,a+1+1+1,g2) _ ⟨by simp only;omega,by simp only;omega,EN,Ht⟩ (by simp only;omega) ?_
         (refine Wk.forget ?_;simp[ZF];done)
       simp only[go_sem,d3,Hb,d4,Cb,EN,Ab,Iw,Kh];refine Cq ((MU (g2.getD ii []) ((jj:Nat):Int) (by omega))) ?_;cases d5:decide (((jj:Nat):Int)∈g2.getD ii []);rotate_left
       . simp only[go_sem,d5,Hb];refine HG (k,a+1+1+1,g2) _ ⟨by simp only;omega,by simp only;omega,EN,Ht⟩ (by simp only;omega) ?_
         (refine Wk.forget ?_;simp[ZF];done)
       cases d6:decide (((g2.getD ii []).length:Int)<4)
       . simp only[go_sem,d5,Cb,BW,EN,Ab,Iw,Kh,d6,Hb];refine HG (k,a+1+1+1,g2) _ ⟨by simp only;omega,by simp only;omega,EN,Ht⟩ (by simp only;omega) ?_
         (refine Wk.forget ?_;simp[ZF];done)
       simp only[go_sem,d5,Cb,BW,EN,Ab,Iw,Kh,d6];refine CH mixed (p:=[(0,0),(1,0),(2,0),(3,0),(4,0),(5,0),(6,0),(7,0),(8,0),(9,0),(10,0),(11,0),(12,0),(13,2),(14,0),(15,3)]) (by kernel_rfl) (by simp[C3,get]) ?_;simp only[go_sem,Cb,BW,EN,Ab,Iw,Kh];refine Gq ((NF (g2.getD ii []) ((jj:Nat):Int) (by omega))) ?_;simp only[go_sem,Cb,EN,Ab,Kh,Hb];refine HG (k,a+1+1+1,g2.set ii (KR (g2.getD ii []) ((jj:Nat):Int))) _ ⟨by simp only;omega,by simp only;omega,by simpa using EN,λ u hu=>?_⟩ (by simp only;omega) ?_
       . rw[DX];by_cases e:ii=u
         . subst e;rw[if_pos ⟨rfl,by omega⟩];exact (Ht ii hu).ins hJ0.1 hJ0.2 (λ h=>Ae d4 h.symm) (Ae d5) (by have:=Ad d6;omega)
         . rw[if_neg (λ h=>e h.1)];exact Ht u hu
       . (refine Wk.forget ?_;simp[ZF,Na,K4];done)
     . generalize (ii+2) % b=J at TX SC;have hJ0:(0:Int)<=((J:Nat):Int)/\((J:Nat):Int)<(b:Int):=by omega
       cases d4:decide ((ii:Int)=((J:Nat):Int));rotate_left
       . simp only[go_sem,d3,Wb,TX,Alf,d4,Hb];refine HG (k,a+1+1+1,g2) _ ⟨by simp only;omega,by simp only;omega,EN,Ht⟩ (by simp only;omega) ?_
         (refine Wk.forget ?_;simp[ZF];done)
       simp only[go_sem,d3,Wb,TX,Alf,d4,Cb,EN,Ab,Iw,Kh];refine Cq ((MU (g2.getD ii []) ((J:Nat):Int) (by omega))) ?_;cases d5:decide (((J:Nat):Int)∈g2.getD ii []);rotate_left
       . simp only[go_sem,d5,Hb];refine HG (k,a+1+1+1,g2) _ ⟨by simp only;omega,by simp only;omega,EN,Ht⟩ (by simp only;omega) ?_
         (refine Wk.forget ?_;simp[ZF];done)
       cases d6:decide (((g2.getD ii []).length:Int)<4)
       . simp only[go_sem,d5,Cb,BW,EN,Ab,Iw,Kh,d6,Hb];refine HG (k,a+1+1+1,g2) _ ⟨by simp only;omega,by simp only;omega,EN,Ht⟩ (by simp only;omega) ?_
         (refine Wk.forget ?_;simp[ZF];done)
       simp only[go_sem,d5,Cb,BW,EN,Ab,Iw,Kh,d6];refine CH mixed (p:=[(0,0),(1,0),(2,0),(3,0),(4,0),(5,0),(6,0),(7,0),(8,0),(9,0),(10,0),(11,0),(12,0),(13,2),(14,0),(15,3)]) (by kernel_rfl) (by simp[C3,get]) ?_;simp only[go_sem,Cb,BW,EN,Ab,Iw,Kh];refine Gq ((NF (g2.getD ii []) ((J:Nat):Int) (by omega))) ?_;simp only[go_sem,Cb,EN,Ab,Kh,Hb];refine HG (k,a+1+1+1,g2.set ii (KR (g2.getD ii []) ((J:Nat):Int))) _ ⟨by simp only;omega,by simp only;omega,by simpa using EN,λ u hu=>?_⟩ (by simp only;omega) ?_
       . rw[DX];by_cases e:ii=u
         . subst e;rw[if_pos ⟨rfl,by omega⟩];exact (Ht ii hu).ins hJ0.1 hJ0.2 (λ h=>Ae d4 h.symm) (Ae d5) (by have:=Ad d6;omega)
         . rw[if_neg (λ h=>e h.1)];exact Ht u hu
       . (refine Wk.forget ?_;simp[ZF,Na,K4];done)
 . have Wf:i=b:=by have:=Ae c1;omega
   have hRP:∀u,u<b->RP b u (g.getD u []):=λ u hu=>Alb u (by omega);simp only[go_sem,c1,c1];refine Cq ((C6 l at_ 4 (by omega) (CJ _ (by omega) (by omega)))) ?_;obtain ⟨k0,G5,hk4⟩:=CT l at_ 4 (by omega);simp only[go_sem,Dg,G5];refine B4 (λ q:Nat×Nat×List (List Int)=>⟨[(0,.ptr 1000000 0),(1,.ptr 1000001 0),(4,.p (.int .i64 (b:Nat))),(6,.p (.int .i64 (q.1:Nat)))],
       [(1000000,.box [.p (.sl (BY l)),.p (.int .i64 (q.2.1:Nat))]),(1000001,.box [.ref 1000002 0 b b,.ref 1000003 0 b b,.cl [],.cl [],.p (.int .i64 0),.p (.int .i64 0),.p (.int .i64 0),.p (.int .i64 0)]),(1000002,.arr 76 3 (CV bl)),(1000003,.arr 22 1 (Cj q.2.2))],98⟩)
     (λ q=>q.1<=3/\q.2.1<=at_+1+3*(3 - q.1)/\q.2.2.length=b/\∀i,i<b->RP b i (q.2.2.getD i [])) (λ q=>q.1) (k0,at_+1,g) ⟨by simp only;omega,by simp only;omega,hgl,hRP⟩ (Wk.forget (by simp[ZF,Cj])) ?_
   rintro ⟨k,a,g2⟩ m2 ⟨hk3,Hf,EN,Ht⟩ HG;simp only at hk3 Hf EN Ht;cases d1:decide (0<(k:Int))
   . simp only[go_sem,d1];refine Cm ?_;simp only[go_sem];refine ⟨a,g2,by omega,EN,Ht,?_⟩;first | exact ⟨rfl,rfl⟩ | rfl | simp
   cases d2:decide (2<(b:Int))
   . simp only[go_sem,d1,d2];refine Cm ?_;simp only[go_sem];refine ⟨a,g2,by omega,EN,Ht,?_⟩;first | exact ⟨rfl,rfl⟩ | rfl | simp
   have hkp:1<=k:=by have:=Ad d1;omega
   obtain ⟨k,rfl⟩:∃j,k=j+1:=⟨k - 1,by omega⟩;have Hb:=HK k (by omega);have hb3:2<b:=by have:=Ad d2;omega
   have hbz:(0:Int)<(b:Int):=by omega
   obtain ⟨ii,hii,Bbh⟩:=CT l a b hbz;obtain ⟨jj,hjj,Bbg⟩:=CT l (a+1) b hbz;have Kh:(0:Int)<=(ii:Int)/\(ii:Int)<(b:Int):=by omega
   have Iw:=Gi g2 ii (by omega);have hRl:=(Ht ii (by omega)).2.2.1;simp only[go_sem,d1,d2];refine Cq ((C6 l a b (by omega) (CJ _ (by omega) (by omega)))) ?_;simp only[go_sem,Dg,hii];refine Cq ((C6 l (a+1) b (by omega) (CJ _ (by omega) (by omega)))) ?_;simp only[go_sem,Dg,hjj];refine Cq ((C6 l (a+1+1) 3 (by omega) (CJ _ (by omega) (by omega)))) ?_;simp only[go_sem,Dg];have TX:(((ii:Int)+2)).tmod (b:Int)=(((ii+2) % b:Nat):Int):=by
     rw[show (ii:Int)+2=((ii+2:Nat):Int) by omega,Int.tmod_eq_emod_of_nonneg (by omega)];exact (Int.natCast_emod _ _).symm
   have Wb:IntKind.i64.wrap ((ii:Int)+2)=(ii:Int)+2:=by rw[B2]<;>omega
   have Alf:¬(b:Int)=0:=by omega
   have SC:(ii+2) % b<b:=Nat.mod_lt _ (by omega);cases d3:decide (0<ME l (a+1+1) 3)
   . skip
     have hJ0:(0:Int)<=((jj:Nat):Int)/\((jj:Nat):Int)<(b:Int):=by omega
     cases d4:decide ((ii:Int)=((jj:Nat):Int));rotate_left
     . simp only[go_sem,d3,Hb,d4,Hb];refine HG (k,a+1+1+1,g2) _ ⟨by simp only;omega,by simp only;omega,EN,Ht⟩ (by simp only;omega) ?_
       (refine Wk.forget ?_;simp[ZF];done)
     simp only[go_sem,d3,Hb,d4,Cb,EN,Ab,Iw,Kh];refine Cq ((MU (g2.getD ii []) ((jj:Nat):Int) (by omega))) ?_;cases d5:decide (((jj:Nat):Int)∈g2.getD ii []);rotate_left
     . simp only[go_sem,d5,Hb];refine HG (k,a+1+1+1,g2) _ ⟨by simp only;omega,by simp only;omega,EN,Ht⟩ (by simp only;omega) ?_
       (refine Wk.forget ?_;simp[ZF];done)
     cases d6:decide (((g2.getD ii []).length:Int)<4)
     . simp only[go_sem,d5,Cb,BW,EN,Ab,Iw,Kh,d6,Hb];refine HG (k,a+1+1+1,g2) _ ⟨by simp only;omega,by simp only;omega,EN,Ht⟩ (by simp only;omega) ?_
       (refine Wk.forget ?_;simp[ZF];done)
     simp only[go_sem,d5,Cb,BW,EN,Ab,Iw,Kh,d6];refine CH mixed (p:=[(0,0),(1,0),(2,0),(3,0),(4,0),(5,0),(6,0),(7,0),(8,0),(9,0),(10,0),(11,0),(12,0),(13,2),(14,0),(15,3)]) (by kernel_rfl) (by simp[C3,get]) ?_;simp only[go_sem,Cb,BW,EN,Ab,Iw,Kh];refine Gq ((NF (g2.getD ii []) ((jj:Nat):Int) (by omega))) ?_;simp only[go_sem,Cb,EN,Ab,Kh,Hb];refine HG (k,a+1+1+1,g2.set ii (KR (g2.getD ii []) ((jj:Nat):Int))) _ ⟨by simp only;omega,by simp only;omega,by simpa using EN,λ u hu=>?_⟩ (by simp only;omega) ?_
     . rw[DX];by_cases e:ii=u
       . subst e;rw[if_pos ⟨rfl,by omega⟩];exact (Ht ii hu).ins hJ0.1 hJ0.2 (λ h=>Ae d4 h.symm) (Ae d5) (by have:=Ad d6;omega)
       . rw[if_neg (λ h=>e h.1)];exact Ht u hu
     . (refine Wk.forget ?_;simp[ZF,Na,K4];done)
   . generalize (ii+2) % b=J at TX SC;have hJ0:(0:Int)<=((J:Nat):Int)/\((J:Nat):Int)<(b:Int):=by omega
     cases d4:decide ((ii:Int)=((J:Nat):Int));rotate_left
     . simp only[go_sem,d3,Wb,TX,Alf,d4,Hb];refine HG (k,a+1+1+1,g2) _ ⟨by simp only;omega,by simp only;omega,EN,Ht⟩ (by simp only;omega) ?_
       (refine Wk.forget ?_;simp[ZF];done)
     simp only[go_sem,d3,Wb,TX,Alf,d4,Cb,EN,Ab,Iw,Kh];refine Cq ((MU (g2.getD ii []) ((J:Nat):Int) (by omega))) ?_;cases d5:decide (((J:Nat):Int)∈g2.getD ii []);rotate_left
     . simp only[go_sem,d5,Hb];refine HG (k,a+1+1+1,g2) _ ⟨by simp only;omega,by simp only;omega,EN,Ht⟩ (by simp only;omega) ?_
       (refine Wk.forget ?_;simp[ZF];done)
     cases d6:decide (((g2.getD ii []).length:Int)<4)
     . simp only[go_sem,d5,Cb,BW,EN,Ab,Iw,Kh,d6,Hb];refine HG (k,a+1+1+1,g2) _ ⟨by simp only;omega,by simp only;omega,EN,Ht⟩ (by simp only;omega) ?_
       (refine Wk.forget ?_;simp[ZF];done)
     simp only[go_sem,d5,Cb,BW,EN,Ab,Iw,Kh,d6];refine CH mixed (p:=[(0,0),(1,0),(2,0),(3,0),(4,0),(5,0),(6,0),(7,0),(8,0),(9,0),(10,0),(11,0),(12,0),(13,2),(14,0),(15,3)]) (by kernel_rfl) (by simp[C3,get]) ?_;simp only[go_sem,Cb,BW,EN,Ab,Iw,Kh];refine Gq ((NF (g2.getD ii []) ((J:Nat):Int) (by omega))) ?_;simp only[go_sem,Cb,EN,Ab,Kh,Hb];refine HG (k,a+1+1+1,g2.set ii (KR (g2.getD ii []) ((J:Nat):Int))) _ ⟨by simp only;omega,by simp only;omega,by simpa using EN,λ u hu=>?_⟩ (by simp only;omega) ?_
     . rw[DX];by_cases e:ii=u
       . subst e;rw[if_pos ⟨rfl,by omega⟩];exact (Ht ii hu).ins hJ0.1 hJ0.2 (λ h=>Ae d4 h.symm) (Ae d5) (by have:=Ad d6;omega)
       . rw[if_neg (λ h=>e h.1)];exact Ht u hu
     . (refine Wk.forget ?_;simp[ZF,Na,K4];done)
def Abg(i:Nat):List UInt8:=if i<10 then [UInt8.ofNat (48+i)] else [UInt8.ofNat (48+i / 10),UInt8.ofNat (48+i % 10)]
theorem Ao0(i:Nat)(h:i<100):IH i=Abg i:=by
 unfold Abg;by_cases h1:i<10
 . rw[if_pos h1,GX i h1]
 . rw[if_neg h1,Nb i h1,GX (i / 10) (by omega)];rfl
theorem Anz:∀i,i<24->∀j,j<24->Abg i=Abg j->i=j:=by decide
theorem Aqd:∀i,i<24->CY (98::Abg i)=true:=by decide
theorem Aqc:∀i,i<24->CY (115::Abg i)=true:=by decide
structure Aox(n:Nt):Prop where
 nb:1<=n.blocks.length/\n.blocks.length<=10
 bl:∀i,i<n.blocks.length->(n.blocks.getD i FG).name=98::IH i/\X8 (n.blocks.getD i FG)
 nl:n.next.length=n.blocks.length
 nx:∀i,i<n.blocks.length->RP n.blocks.length i (n.next.getD i [])
 ns:3<=n.spurs.length/\n.spurs.length<=5
 sp:∀i,i<n.spurs.length->(n.spurs.getD i Co).name=115::IH i/\(i=0->(n.spurs.getD i Co).Cz=true)/\(i=1∨i=2->(n.spurs.getD i Co).Cz=false)
 ss:Eu n.blocks.length n.spurs
 rl:n.B5.length<=3
 rb:EE n.spurs n.B5
 cf:IJ n.cq n.ca n.cd n.cp
theorem Aab{n:Nt}(i:Nat)(hi:i<(Dk n).length):(Dk n).getD i []=if i<n.blocks.length then (n.blocks.getD i FG).name else (n.spurs.getD (i - n.blocks.length) Co).name:=by
 have hl:(Dk n).length=n.blocks.length+n.spurs.length:=by simp[Dk]
 have D7:i<n.blocks.length+n.spurs.length:=by omega
 rw[getD_eq hi];unfold Dk at hi ⊢;by_cases h:i<n.blocks.length
 . rw[if_pos h,List.getElem_append_left (by simpa using h),List.getElem_map,getD_eq h]
 . rw[if_neg h,List.getElem_append_right (by simpa using h),List.getElem_map,getD_eq (show i - n.blocks.length<n.spurs.length by omega)];simp
theorem Aox.valid{n:Nt}(h:Aox n):validN n:=by
 obtain ⟨nb,bl,nl,nx,ns,sp,ss,rl,rb,cf⟩:=h;refine ⟨⟨nb.1,by omega,nl,λ i hi=>⟨(bl i hi).2,(nx i hi).2.2.1,(nx i hi).row⟩⟩,by omega,λ i hi=>?_,by omega,cf,ss,rb,?_⟩
 . have hl:(Dk n).length=n.blocks.length+n.spurs.length:=by simp[Dk]
   have key:∀j,j<(Dk n).length->∃c d,(Dk n).getD j []=c::Abg d/\d<24/\((j<n.blocks.length/\c=98/\d=j)∨(n.blocks.length<=j/\c=115/\d=j - n.blocks.length)):=by
     intro j hj;rw[Aab j hj];by_cases h1:j<n.blocks.length
     . rw[if_pos h1,(bl j h1).1,Ao0 j (by omega)];exact ⟨98,j,rfl,by omega,.inl ⟨h1,rfl,rfl⟩⟩
     . rw[if_neg h1,(sp (j - n.blocks.length) (by omega)).1,Ao0 _ (by omega)];exact ⟨115,j - n.blocks.length,rfl,by omega,.inr ⟨by omega,rfl,rfl⟩⟩
   obtain ⟨c,d,h1,h2,h3⟩:=key i hi;refine ⟨?_,λ k hk=>?_⟩
   . rw[h1];rcases h3 with ⟨_,rfl,_⟩ | ⟨_,rfl,_⟩
     . exact Aqd d h2
     . exact Aqc d h2
   . obtain ⟨c2,d2,h4,h5,h6⟩:=key k (by omega);rw[h1,h4];intro he;rw[List.cons.injEq] at he;have hd:=Anz d h2 d2 h5 he.2;rcases h3 with ⟨_,rfl,rfl⟩ | ⟨_,rfl,rfl⟩<;>rcases h6 with ⟨_,rfl,rfl⟩ | ⟨_,rfl,rfl⟩
     . omega
     . exact absurd he.1 (by decide)
     . exact absurd he.1 (by decide)
     . omega
 . have h0:=(sp 0 (by omega)).2.1 rfl;rw[List.length_filter_pos_iff];exact ⟨_,CB n.spurs 0 Co (by omega),h0⟩
theorem HY{α:Type}(l:List α)(x y:α)(i:Nat):(l++[x]).getD i y=if i<l.length then l.getD i y else if i=l.length then x else y:=by
 simp only[List.getD];by_cases h:i<l.length
 . rw[if_pos h,AV h]
 . rw[if_neg h,A1 (by omega)];by_cases h2:i=l.length
   . rw[if_pos h2,h2];simp
   . rw[if_neg h2];have:1<=i - l.length:=by omega
     obtain ⟨m,hm⟩:∃m,i - l.length=m+1:=⟨i - l.length - 1,by omega⟩;rw[hm];simp
def Ave(bl:List Eh):Prop:=∀i,i<bl.length->(bl.getD i FG).name=98::IH i/\X8 (bl.getD i FG)
theorem Ai2{bl:List Eh}(h:Ave bl)(x y:Int)(hx:-4<=x/\x<=4)(hy:-4<=y/\y<=4):Ave (bl++[⟨98::IH bl.length,x,y⟩]):=by
 intro i hi;rw[HY];by_cases h1:i<bl.length
 . rw[if_pos h1];exact h i h1
 . have h2:i=bl.length:=by simp at hi;omega
   rw[if_neg h1,if_pos h2,h2];exact ⟨rfl,by unfold X8;simp only;omega⟩
def YG(nb:Nat)(l:List C5):Prop:=∀i,i<l.length->(l.getD i Co).name=115::IH i/\(i=0->(l.getD i Co).Cz=true)/\(i=1∨i=2->(l.getD i Co).Cz=false)/\L0 nb (nb+Db (l.take i)) (l.getD i Co)
theorem I0{sp:List C5}{rb:List Int}{x:Int}(h:EE sp rb)(h1:sp.any (Md x)=true)(h2:x∉rb):EE sp (rb++[x]):=by
 intro i hi;rw[HY];by_cases h3:i<rb.length
 . rw[if_pos h3,List.take_append_of_le_length (by omega)];exact h i h3
 . have h4:i=rb.length:=by simp at hi;omega
   subst h4;rw[if_neg h3,if_pos rfl,List.take_left' rfl];exact ⟨h1,h2⟩
theorem YG.spurs{nb:Nat}{l:List C5}(h:YG nb l):Eu nb l:=λ i hi=>(h i hi).2.2.2
theorem YG.rng{nb:Nat}{l:List C5}(h:YG nb l):0<=Db l/\Db l<=4*l.length:=S4 h.spurs
theorem YG.snoc{nb:Nat}{l:List C5}(h:YG nb l)(dp:Bool)(x y z:Int)(hx:0<=x/\x<(nb:Int))(hy:0<=y/\y<(nb:Int))(hz:1<=z/\z<=4)(h0:l.length=0->dp=true)(h1:l.length=1∨l.length=2->dp=false):
   YG nb (l++[⟨115::IH l.length,dp,x,y,z,(nb:Int)+Db l⟩]):=by
 intro i hi;rw[HY];by_cases h2:i<l.length
 . rw[if_pos h2,List.take_append_of_le_length (by omega)];exact h i h2
 . have h3:i=l.length:=by simp at hi;omega
   subst h3;rw[if_neg h2,if_pos rfl,List.take_left' rfl];exact ⟨rfl,h0,h1,hx.1,hx.2,hy.1,hy.2,hz.1,hz.2,rfl⟩
def Nt.os(n:Nt):List D:=[.ref 0 0 n.blocks.length n.blocks.length,.ref 1 0 n.next.length n.next.length,.ref 2 0 n.spurs.length n.spurs.length,.ref 3 0 n.B5.length n.B5.length,.p (.int .i64 n.cq),.p (.int .i64 n.ca),.p (.int .i64 n.cd),.p (.int .i64 n.cp)]
theorem Ak7(R:Nt->Int->Prop)(hR:∀n:Nt,validN n->B1 prog 21 [.agg n.cs] [] λ h r=>h=[]/\∃(o:List Int) (sl cap:Int),r= .Dr [.agg [.p (.int .i64 (o.length:Nat)),.p (.sl (BY o)),.p (.int .i64 sl),.p (.int .i64 cap)],.p (.int .i64 0)]/\cap<=sl/\sl=slotsV (List.replicate (cellsV n).toNat false) n.spurs/\R n cap)
   (l:List Int) (at_ OO:Nat) (Ji:at_<100000) (Wd:1<=OO) (SC:OO<=10):
   B1 prog 24 [.ptr 1000000 0,.p (.int .i64 (OO:Nat))] [(1000000,.box (Dg l at_))]
     λ h r=>∃at2 n,at2<=at_+200/\(Aox n/\∃cap,R {n with B5:=[]} cap/\(n.B5.length=0∨(n.B5.length:Int)<=cap))/\h=[(1000000,.box (Dg l at2)),(0,.arr 76 3 (CV n.blocks)),(1,.arr 22 1 (Cj n.next)),(2,.arr 68 6 (CQ n.spurs)),(3,.arr 3 1 (BY n.B5))]/\r= .agg n.os:=by
 refine B0 func24 rfl Anc (by simp[Tryz.f24]) ?_;simp only[go_sem,Dg];refine Cq ((C6 l at_ OO (by omega) (CJ _ (by omega) (by omega)))) ?_;obtain ⟨k0,G5,P1⟩:=CT l at_ OO (by omega);have Awz:IntKind.i64.wrap (1+(k0:Int))=((k0+1:Nat):Int):=by rw[B2]<;>omega
 simp only[go_sem,Dg,G5,Awz];refine B4 (λ q:Nat×Nat×List Eh=>⟨[(0,.ptr 1000000 0),(4,.ptr 4 0),(5,.ptr 5 0),(6,.p (.int .i64 (q.1:Nat)))],
     [(1000000,.box [.p (.sl (BY l)),.p (.int .i64 (q.2.1:Nat))]),(4,.box [.cl [],.cl [],.cl [],.cl [],.p (.int .i64 0),.p (.int .i64 0),.p (.int .i64 0),.p (.int .i64 0)]),
      (5,.box [.ref 43 0 q.2.2.length q.2.2.length,.ref 48 0 q.2.2.length q.2.2.length,.cl [],.cl [],.p (.int .i64 0),.p (.int .i64 0),.p (.int .i64 0),.p (.int .i64 0)]),(43,.arr 76 3 (CV q.2.2)),(48,.arr 22 1 (Cj (List.replicate q.2.2.length [])))],191⟩)
   (λ q=>q.1+q.2.2.length=k0+1/\q.2.1=at_+1+2*q.2.2.length/\Ave q.2.2) (λ q=>q.1) (k0+1,at_+1,[]) ⟨by simp,by simp,λ i hi=>by simp at hi⟩
   ((Wk.Fq (id:=5) (j:=0) (q:=43) (sz:=3) 76 rfl rfl rfl (by decide)).trans ((Wk.Fq (id:=5) (j:=1) (q:=48) (sz:=1) 22 rfl rfl rfl (by decide)).trans (Wk.forget (by simp[ZF,CV,Cj])))) ?_
 rintro ⟨k,a,bl⟩ m ⟨hk,ha,XF⟩ ih;simp only at hk ha XF;cases c1:decide (0<(k:Int));rotate_left
 . obtain ⟨k,rfl⟩:∃j,k=j+1:=⟨k - 1,by have:=Ad c1;omega⟩;have Hb:=HK k (by omega);obtain ⟨x,hx,hx9⟩:=CT l a 9 (by omega);obtain ⟨y,hy,hy9⟩:=CT l (a+1) 9 (by omega);have hwx:IntKind.i64.wrap ((x:Int) - 4)=(x:Int) - 4:=by rw[B2]<;>omega
   have hwy:IntKind.i64.wrap ((y:Int) - 4)=(y:Int) - 4:=by rw[B2]<;>omega
   have Zt:=JK 15 bl.length (by omega);simp only[go_sem,c1,Cf];refine Di [(5,.box [.ref 43 0 bl.length bl.length,.ref 48 0 bl.length bl.length,.cl [],.cl [],.p (.int .i64 0),.p (.int .i64 0),.p (.int .i64 0),.p (.int .i64 0)])] mixed (p:=[(0,0),(1,0),(2,0),(5,0),(8,0),(3,2),(4,0),(6,2),(7,0),(9,2),(10,0),(11,0),(12,1),(13,2),(14,0),(15,3)]) (by kernel_rfl) (by simp[C3,get]) ?_;simp only[go_sem];refine Gq ((Jl bl.length (by omega))) ?_;simp only[go_sem];refine ⟨by unfold maxLen;omega,?_⟩;refine Gq ((C6 l a 9 (by omega) (CJ _ (by omega) (by omega)))) ?_;simp only[go_sem,Dg,hx,hwx];refine Gq ((C6 l (a+1) 9 (by omega) (CJ _ (by omega) (by omega)))) ?_;simp only[go_sem,Dg,hy,hwy,Cf];refine ⟨⟨Dq _ _ rfl,by omega⟩,?_⟩;(try simp only[go_sem]);refine o8 rfl u5 Adl rfl rfl ?_;simp only[go_sem,Cb,BB];refine ⟨⟨Dq _ _ rfl,by omega⟩,?_⟩;simp only[go_sem,Hb];refine ih (k,a+1+1,bl++[⟨98::IH bl.length,(x:Int) - 4,(y:Int) - 4⟩]) _ ⟨by simp;omega,by simp;omega,Ai2 XF _ _ (by omega) (by omega)⟩ (by simp only;omega) ?_
   (refine Wk.forget ?_;simp[ZF,WB,Cf,Cj,BY,List.replicate_succ'];done)
 have hkz:k=0:=by have:=Ae c1;omega
 subst hkz;have hnb:bl.length=k0+1:=by omega
 clear ih Awz;simp only[go_sem,c1,Cf];refine Ec (Apw l a bl.length bl (List.replicate bl.length []) (by omega) (by omega) (by omega) rfl (by simp) (λ i hi=>by simp[List.getD,hi])) ?_;rintro h' r ⟨a2,nx,ha2,N6,hnx,rfl,rfl⟩;have Bbb:1<=bl.length/\bl.length<=10:=by omega
 have ha3:a2<=at_+100:=by omega
 clear hk ha hnb G5 P1 ha2;simp only[go_sem,Dg,Cf];refine Cq ((C6 l a2 3 (by omega) (CJ _ (by omega) (by omega)))) ?_;obtain ⟨k3,hk3,hk4⟩:=CT l a2 3 (by omega);have Awy:IntKind.i64.wrap (3+(k3:Int))=((k3+3:Nat):Int):=by rw[B2]<;>omega
 simp only[go_sem,Dg,hk3,Awy];refine B4 (λ q:Nat×Nat×List C5=>⟨[(0,.ptr 1000000 0),(4,.ptr 4 0),(5,.ptr 5 0),(8,.p (.int .i64 ((bl.length:Int)+Db q.2.2))),(9,.p (.int .i64 (q.1:Nat)))],
     [(1000000,.box [.p (.sl (BY l)),.p (.int .i64 (q.2.1:Nat))]),(4,.box [.cl [],.cl [],.cl [],.cl [],.p (.int .i64 0),.p (.int .i64 0),.p (.int .i64 0),.p (.int .i64 0)]),
      (5,.box [.ref 43 0 bl.length bl.length,.ref 48 0 bl.length bl.length,.ref 102 0 q.2.2.length q.2.2.length,.cl [],.p (.int .i64 0),.p (.int .i64 0),.p (.int .i64 0),.p (.int .i64 0)]),(43,.arr 76 3 (CV bl)),(48,.arr 22 1 (Cj nx)),(102,.arr 68 6 (CQ q.2.2))],191⟩)
   (λ q=>q.1+q.2.2.length=k3+3/\q.2.1<=a2+1+4*q.2.2.length/\YG bl.length q.2.2) (λ q=>q.1) (k3+3,a2+1,[]) ⟨by simp,by simp,λ i hi=>by simp at hi⟩
   ((Wk.Fq (id:=5) (j:=2) (q:=102) (sz:=6) 68 rfl rfl rfl (by decide)).trans (Wk.forget (by simp[ZF,CQ,Db]))) ?_
 rintro ⟨k,a,sp⟩ m2 ⟨hk,ha,Iq⟩ ih;simp only at hk ha Iq;have hsr:=Iq.rng;cases c2:decide (0<(k:Int));rotate_left
 . obtain ⟨k,rfl⟩:∃j,k=j+1:=⟨k - 1,by have:=Ad c2;omega⟩;have Hb:=HK k (by omega);have Zt:=JK 15 sp.length (by omega);have hbz:(0:Int)<(bl.length:Int):=by omega
   by_cases C0:sp.length=0
   . have H7:((sp.length:Nat):Int)=0:=by omega
     have hd:decide (((sp.length:Nat):Int)=0)=true:=Ag H7;simp only[go_sem,c2,Cd];refine Di [(5,.box [.ref 43 0 bl.length bl.length,.ref 48 0 bl.length bl.length,.ref 102 0 sp.length sp.length,.cl [],.p (.int .i64 0),.p (.int .i64 0),.p (.int .i64 0),.p (.int .i64 0)]),(43,.arr 76 3 (CV bl))] mixed (p:=[(0,0),(3,0),(4,0),(14,0),(15,0),(16,0),(17,0),(19,0),(20,0),(21,0),(22,0),(24,0),(27,0),(29,1),(1,2),(2,0),(5,0),(6,0),(7,0),(8,0),(9,0),(10,2),(11,0),(12,0),(13,0),(18,2),(23,2),(25,2),(26,0),(28,0),(30,3)]) (by kernel_rfl) (by simp[C3,get]) ?_;simp only[go_sem,hd,Cf];refine Gq ((Jl sp.length (by omega))) ?_;simp only[go_sem,hd,Cf];refine ⟨by unfold maxLen;omega,?_⟩;obtain ⟨x,hx,hxb⟩:=CT l a bl.length hbz;obtain ⟨y,hy,hyb⟩:=CT l (a+1) bl.length hbz;obtain ⟨z,hz,hzb⟩:=CT l (a+1+1) 3 (by omega);have hwz:IntKind.i64.wrap (1+(z:Int))=1+(z:Int):=by rw[B2]<;>omega
     have Yf:IntKind.i64.wrap ((bl.length:Int)+Db sp+(1+(z:Int)))=(bl.length:Int)+Db sp+(1+(z:Int)):=by rw[B2]<;>omega
     refine Gq ((C6 l a bl.length (by omega) (CJ _ (by omega) (by omega)))) ?_;simp only[go_sem,Dg,hx];refine Gq ((C6 l (a+1) bl.length (by omega) (CJ _ (by omega) (by omega)))) ?_;simp only[go_sem,Dg,hy];refine Gq ((C6 l (a+1+1) 3 (by omega) (CJ _ (by omega) (by omega)))) ?_;simp only[go_sem,Dg,hz,hwz,Yf,Cd];refine ⟨⟨Dq _ _ rfl,by omega⟩,?_⟩;simp only[go_sem,Hb];refine ih (k,a+1+1+1,sp++[⟨115::IH sp.length,true,(x:Int),(y:Int),1+(z:Int),(bl.length:Int)+Db sp⟩]) _ ⟨by simp;omega,by simp;omega,Iq.snoc _ _ _ _ (by omega) (by omega) (by omega) (λ _=>rfl) (λ h=>by omega)⟩ (by simp only;omega) ?_
     (refine Wk.forget ?_;simp[ZF,NN,Cd,DY,Int.add_assoc];done)
   by_cases D7:sp.length<=2
   . have hd:decide (((sp.length:Nat):Int)=0)=false:=Ah (by omega);have IQ:decide (2<((sp.length:Nat):Int))=false:=Ah (by omega);simp only[go_sem,c2,Cd];refine Di [(5,.box [.ref 43 0 bl.length bl.length,.ref 48 0 bl.length bl.length,.ref 102 0 sp.length sp.length,.cl [],.p (.int .i64 0),.p (.int .i64 0),.p (.int .i64 0),.p (.int .i64 0)]),(43,.arr 76 3 (CV bl))] mixed (p:=[(0,0),(3,0),(4,0),(14,0),(15,0),(16,0),(17,0),(19,0),(20,0),(21,0),(22,0),(24,0),(27,0),(29,1),(1,2),(2,0),(5,0),(6,0),(7,0),(8,0),(9,0),(10,2),(11,0),(12,0),(13,0),(18,2),(23,2),(25,2),(26,0),(28,0),(30,3)]) (by kernel_rfl) (by simp[C3,get]) ?_;simp only[go_sem,hd,IQ,Cf];refine Gq ((Jl sp.length (by omega))) ?_;simp only[go_sem,hd,IQ,Cf];refine ⟨by unfold maxLen;omega,?_⟩;obtain ⟨x,hx,hxb⟩:=CT l a bl.length hbz;obtain ⟨y,hy,hyb⟩:=CT l (a+1) bl.length hbz;obtain ⟨z,hz,hzb⟩:=CT l (a+1+1) 3 (by omega);have hwz:IntKind.i64.wrap (1+(z:Int))=1+(z:Int):=by rw[B2]<;>omega
     have Yf:IntKind.i64.wrap ((bl.length:Int)+Db sp+(1+(z:Int)))=(bl.length:Int)+Db sp+(1+(z:Int)):=by rw[B2]<;>omega
     refine Gq ((C6 l a bl.length (by omega) (CJ _ (by omega) (by omega)))) ?_;simp only[go_sem,Dg,hx];refine Gq ((C6 l (a+1) bl.length (by omega) (CJ _ (by omega) (by omega)))) ?_;simp only[go_sem,Dg,hy];refine Gq ((C6 l (a+1+1) 3 (by omega) (CJ _ (by omega) (by omega)))) ?_;simp only[go_sem,Dg,hz,hwz,Yf,Cd];refine ⟨⟨Dq _ _ rfl,by omega⟩,?_⟩;simp only[go_sem,Hb];refine ih (k,a+1+1+1,sp++[⟨115::IH sp.length,false,(x:Int),(y:Int),1+(z:Int),(bl.length:Int)+Db sp⟩]) _ ⟨by simp;omega,by simp;omega,Iq.snoc _ _ _ _ (by omega) (by omega) (by omega) (λ h=>by omega) (λ _=>rfl)⟩ (by simp only;omega) ?_
     (refine Wk.forget ?_;simp[ZF,NN,Cd,DY,Int.add_assoc];done)
   . have hd:decide (((sp.length:Nat):Int)=0)=false:=Ah (by omega);have IQ:decide (2<((sp.length:Nat):Int))=true:=Ag (by omega);simp only[go_sem,c2,Cd];refine Di [(5,.box [.ref 43 0 bl.length bl.length,.ref 48 0 bl.length bl.length,.ref 102 0 sp.length sp.length,.cl [],.p (.int .i64 0),.p (.int .i64 0),.p (.int .i64 0),.p (.int .i64 0)]),(43,.arr 76 3 (CV bl))] mixed (p:=[(0,0),(3,0),(4,0),(14,0),(15,0),(16,0),(17,0),(19,0),(20,0),(21,0),(22,0),(24,0),(27,0),(29,1),(1,2),(2,0),(5,0),(6,0),(7,0),(8,0),(9,0),(10,2),(11,0),(12,0),(13,0),(18,2),(23,2),(25,2),(26,0),(28,0),(30,3)]) (by kernel_rfl) (by simp[C3,get]) ?_;simp only[go_sem,hd,IQ,Cf];refine Gq ((Jl sp.length (by omega))) ?_;simp only[go_sem,hd,IQ,Cf];refine ⟨by unfold maxLen;omega,?_⟩;refine Gq ((C6 l a 2 (by omega) (CJ _ (by omega) (by omega)))) ?_;simp only[go_sem,Dg,hd,IQ];obtain ⟨x,hx,hxb⟩:=CT l (a+1) bl.length hbz;obtain ⟨y,hy,hyb⟩:=CT l ((a+1)+1) bl.length hbz;obtain ⟨z,hz,hzb⟩:=CT l ((a+1)+1+1) 3 (by omega);have hwz:IntKind.i64.wrap (1+(z:Int))=1+(z:Int):=by rw[B2]<;>omega
     have Yf:IntKind.i64.wrap ((bl.length:Int)+Db sp+(1+(z:Int)))=(bl.length:Int)+Db sp+(1+(z:Int)):=by rw[B2]<;>omega
     refine Gq ((C6 l (a+1) bl.length (by omega) (CJ _ (by omega) (by omega)))) ?_;simp only[go_sem,Dg,hx];refine Gq ((C6 l ((a+1)+1) bl.length (by omega) (CJ _ (by omega) (by omega)))) ?_;simp only[go_sem,Dg,hy];refine Gq ((C6 l ((a+1)+1+1) 3 (by omega) (CJ _ (by omega) (by omega)))) ?_;simp only[go_sem,Dg,hz,hwz,Yf,Cd];refine ⟨⟨Dq _ _ rfl,by omega⟩,?_⟩;simp only[go_sem,Hb];refine ih (k,(a+1)+1+1+1,sp++[⟨115::IH sp.length,(decide (ME l a 2=0)),(x:Int),(y:Int),1+(z:Int),(bl.length:Int)+Db sp⟩]) _ ⟨by simp;omega,by simp;omega,Iq.snoc _ _ _ _ (by omega) (by omega) (by omega) (λ h=>by omega) (λ h=>by omega)⟩ (by simp only;omega) ?_
     (refine Wk.forget ?_;simp[ZF,NN,Cd,DY,Int.add_assoc];done)
 have Bbf:k=0:=by have:=Ae c2;omega
 subst Bbf;have p9:3<=sp.length/\sp.length<=5:=by omega
 have ha4:a<=at_+130:=by omega
 clear ih hk ha Awy hk3;obtain ⟨q1,TW,Bb3⟩:=CT l a 4 (by omega);obtain ⟨q2,Vk,Auk⟩:=CT l (a+1) 3 (by omega);obtain ⟨q3,hq3,hq3b⟩:=CT l (a+1+1) 3 (by omega);obtain ⟨q4,hq4,hq4b⟩:=CT l (a+1+1+1) 8 (by omega);obtain ⟨q5,hq5,hq5b⟩:=CT l (a+1+1+1+1) 3 (by omega);have Xw:IntKind.i64.wrap (1+(q1:Int))=1+(q1:Int):=by rw[B2]<;>omega
 have hw4:IntKind.i64.wrap (1+(q4:Int))=1+(q4:Int):=by rw[B2]<;>omega
 have hw5:IntKind.i64.wrap (1+(q5:Int))=((q5+1:Nat):Int):=by rw[B2]<;>omega
 have hP:∀rb:List Int,rb.length<=3->EE sp rb->Aox ⟨bl,nx,sp,rb,1+q1,q2,q3,1+q4⟩:=λ rb Hy HB=>
   ⟨Bbb,XF,N6,hnx,p9,λ i hi=>⟨(Iq i hi).1,(Iq i hi).2.1,(Iq i hi).2.2.1⟩,Iq.spurs,Hy,HB,by unfold IJ;simp only;omega⟩
 have hF:B1 prog 21 [.agg [.p (.sl (CV bl)),.p (.sl (Cj nx)),.p (.sl (CQ sp)),.p (.sl []),.p (.int .i64 (1+q1)),.p (.int .i64 q2),.p (.int .i64 q3),.p (.int .i64 (1+q4))]] [] _:=
   hR ⟨bl,nx,sp,[],1+q1,q2,q3,1+q4⟩ (hP [] (by simp) (λ i hi=>by simp at hi)).valid
 have e1:=WA bl bl.length (Ai _);have e2:=Ahd nx bl.length (by omega);have e3:=Wz sp sp.length (Ai _);simp only[go_sem,c2];refine Cq ((C6 l a 4 (by omega) (CJ _ (by omega) (by omega)))) ?_;simp only[go_sem,Dg,TW,Xw];refine Cq ((C6 l (a+1) 3 (by omega) (CJ _ (by omega) (by omega)))) ?_;simp only[go_sem,Dg,Vk];refine Cq ((C6 l (a+1+1) 3 (by omega) (CJ _ (by omega) (by omega)))) ?_;simp only[go_sem,Dg,hq3];refine Cq ((C6 l (a+1+1+1) 8 (by omega) (CJ _ (by omega) (by omega)))) ?_;simp only[go_sem,Dg,hq4,hw4,Cf,Cb,N6,Cd,e1,e2,e3];refine As6 rfl rfl hF (by simp[GS,Nl,ev,get,Cf,Cb,N6,Cd,e1,e2,e3]) ?_;rintro h' r ⟨rfl,o,slv,cap,rfl,Mg,Bb1,hRc⟩;refine ⟨rfl,?_⟩;simp only[go_sem];refine Cq ((C6 l (a+1+1+1+1) 3 (by omega) (CJ _ (by omega) (by omega)))) ?_;simp only[go_sem,Dg,hq5,hw5];refine B4 (λ q:Nat×Nat×List Int=>⟨[(0,.ptr 1000000 0),(4,.ptr 4 0),(5,.ptr 5 0),(12,.ptr 12 0),(14,.p (.int .i64 (q.1:Nat)))],
     [(1000000,.box [.p (.sl (BY l)),.p (.int .i64 (q.2.1:Nat))]),(4,.box [.cl [],.cl [],.cl [],.cl [],.p (.int .i64 0),.p (.int .i64 0),.p (.int .i64 0),.p (.int .i64 0)]),
      (5,.box [.ref 43 0 bl.length bl.length,.ref 48 0 bl.length bl.length,.ref 102 0 sp.length sp.length,.ref 188 0 q.2.2.length q.2.2.length,.p (.int .i64 (1+q1)),.p (.int .i64 q2),.p (.int .i64 q3),.p (.int .i64 (1+q4))]),
      (12,.box [.p (.int .i64 (o.length:Nat)),.Sq,.p (.int .i64 slv),.p (.int .i64 cap)]),(43,.arr 76 3 (CV bl)),(48,.arr 22 1 (Cj nx)),(102,.arr 68 6 (CQ sp)),(188,.arr 3 1 (BY q.2.2))],191⟩)
   (λ q=>q.1+q.2.2.length<=q5+1/\q.2.1+q.1<=a+10/\EE sp q.2.2/\(q.2.2.length=0∨(q.2.2.length:Int)<=cap)) (λ q=>q.1) (q5+1,a+1+1+1+1+1,[]) ⟨by simp,by simp only;omega,λ i hi=>by simp at hi,.inl rfl⟩
   ((Wk.Fq (id:=5) (j:=3) (q:=188) (sz:=1) 3 rfl rfl rfl (by decide)).trans (Wk.forget (by simp[ZF,BY]))) ?_
 rintro ⟨k,b,rb⟩ m3 ⟨hk,hb,Yi,hrc⟩ ih;simp only at hk hb Yi hrc;have e4:=Gt rb rb.length (Ai _);cases c3:decide (0<(k:Int))
 . simp only[go_sem,c3];refine Cm ?_;simp only[go_sem,Cf,Cb,N6,Cd,BW];refine ⟨b,⟨bl,nx,sp,rb,1+q1,q2,q3,1+q4⟩,by omega,⟨hP rb (by omega) Yi,cap,hRc,hrc⟩,?_⟩;simp[Nt.os,Dg,N6]
 cases c4:decide ((rb.length:Int)<cap)
 . simp only[go_sem,c3,c4,BW];refine Cm ?_;simp only[go_sem,Cf,Cb,N6,Cd,BW];refine ⟨b,⟨bl,nx,sp,rb,1+q1,q2,q3,1+q4⟩,by omega,⟨hP rb (by omega) Yi,cap,hRc,hrc⟩,?_⟩;simp[Nt.os,Dg,N6]
 simp only[go_sem,c3,c4,BW];have Yh:rb.length<=3:=by omega
 have hss:=Iq.spurs;refine B4 (λ q:Nat×List Int=>⟨[(0,.ptr 1000000 0),(4,.ptr 4 0),(5,.ptr 5 0),(12,.ptr 12 0),(14,.p (.int .i64 (k:Nat))),(15,.ref 177 0 q.2.length q.2.length),(16,.p (.int .i64 (q.1:Nat)))],
     [(1000000,.box [.p (.sl (BY l)),.p (.int .i64 (b:Nat))]),(4,.box [.cl [],.cl [],.cl [],.cl [],.p (.int .i64 0),.p (.int .i64 0),.p (.int .i64 0),.p (.int .i64 0)]),
      (5,.box [.ref 43 0 bl.length bl.length,.ref 48 0 bl.length bl.length,.ref 102 0 sp.length sp.length,.ref 188 0 rb.length rb.length,.p (.int .i64 (1+q1)),.p (.int .i64 q2),.p (.int .i64 q3),.p (.int .i64 (1+q4))]),
      (12,.box [.p (.int .i64 (o.length:Nat)),.Sq,.p (.int .i64 slv),.p (.int .i64 cap)]),(43,.arr 76 3 (CV bl)),(48,.arr 22 1 (Cj nx)),(102,.arr 68 6 (CQ sp)),(188,.arr 3 1 (BY rb)),(177,.arr 3 1 (BY q.2))],191⟩)
   (λ q=>q.1<=sp.length/\q.2.length<=4*q.1/\(∀x∈q.2,sp.any (Md x)=true/\x∉rb)/\∀u,u<q.1->∀j:Nat,(sp.getD u Co).Cz=true->(j:Int)<(sp.getD u Co).Cs->(sp.getD u Co).base+(j:Int)∈rb∨(sp.getD u Co).base+(j:Int)∈q.2)
   (λ q=>sp.length - q.1) (0,[]) ⟨AD _,by simp,λ x hx=>by simp at hx,λ u hu=>absurd hu (AZ _)⟩
   ((Wk.nil (t:=15) (q:=177) (sz:=1) 3 rfl rfl (by decide)).trans (Wk.forget (by simp[ZF,BY]))) ?_
 rintro ⟨i,fr⟩ m4 ⟨hi,P3,hfr,Aut⟩ R1;simp only at hi P3 hfr Aut;cases c5:decide ((i:Int)<(sp.length:Int));rotate_left
 . have hit:i<sp.length:=by have:=Ad c5;omega
   have Wb:=Ca i (by omega);have QD:=Eo sp i hit;have C0:(0:Int)<=(i:Int)/\(i:Int)<(sp.length:Int):=by omega
   have E0:=CB sp i Co hit;obtain ⟨_,_,_,_,g5,g6,g7⟩:=hss i hit;obtain ⟨g8,g9,_⟩:=Mq hss hit;generalize hse:sp.getD i Co=s at*;simp only[go_sem,c5,Cd];refine B4 (λ q:Nat×List Int=>⟨[(0,.ptr 1000000 0),(4,.ptr 4 0),(5,.ptr 5 0),(12,.ptr 12 0),(14,.p (.int .i64 (k:Nat))),(15,.ref 177 0 q.2.length q.2.length),(16,.p (.int .i64 (i:Nat))),(17,.p (.int .i64 (q.1:Nat)))],
       [(1000000,.box [.p (.sl (BY l)),.p (.int .i64 (b:Nat))]),(4,.box [.cl [],.cl [],.cl [],.cl [],.p (.int .i64 0),.p (.int .i64 0),.p (.int .i64 0),.p (.int .i64 0)]),
      (5,.box [.ref 43 0 bl.length bl.length,.ref 48 0 bl.length bl.length,.ref 102 0 sp.length sp.length,.ref 188 0 rb.length rb.length,.p (.int .i64 (1+q1)),.p (.int .i64 q2),.p (.int .i64 q3),.p (.int .i64 (1+q4))]),
      (12,.box [.p (.int .i64 (o.length:Nat)),.Sq,.p (.int .i64 slv),.p (.int .i64 cap)]),(43,.arr 76 3 (CV bl)),(48,.arr 22 1 (Cj nx)),(102,.arr 68 6 (CQ sp)),(188,.arr 3 1 (BY rb)),(177,.arr 3 1 (BY q.2))],191⟩)
     (λ q=>q.1<=4/\(q.1:Int)<=s.Cs/\q.2.length<=4*i+q.1/\(∀x∈q.2,sp.any (Md x)=true/\x∉rb)/\(∀u,u<i->∀j:Nat,(sp.getD u Co).Cz=true->(j:Int)<(sp.getD u Co).Cs->(sp.getD u Co).base+(j:Int)∈rb∨(sp.getD u Co).base+(j:Int)∈q.2)/\∀j:Nat,j<q.1->s.base+(j:Int)∈rb∨s.base+(j:Int)∈q.2)
     (λ q=>4 - q.1) (0,fr) ⟨by simp,by simp only;omega,by simp only;omega,hfr,Aut,λ j hj=>absurd hj (AZ _)⟩ (Wk.forget (by simp[ZF,BY])) ?_
   rintro ⟨j,f2⟩ m5 ⟨hj4,hjs,Bbo,hf2,Acs,hcj⟩ Vh;simp only at hj4 hjs Bbo hf2 Acs hcj;have Zo:(¬((j:Int)<s.Cs)∨s.Cz=false)->∀u,u<i+1->∀j:Nat,(sp.getD u Co).Cz=true->(j:Int)<(sp.getD u Co).Cs->(sp.getD u Co).base+(j:Int)∈rb∨(sp.getD u Co).base+(j:Int)∈f2:=by
     intro hx u hu v hd hv;rcases AF.1 hu with h5 | rfl
     . exact Acs u h5 v hd hv
     . rw[hse] at hd hv ⊢;rcases hx with hx | hx
       . exact hcj v (by omega)
       . rw[hx] at hd;cases hd
   cases c6:decide ((j:Int)<s.Cs)
   . simp only[go_sem,Cd,Ab,QD,C0,c6,Wb];refine R1 (i+1,f2) _ ⟨hit,by simp only;omega,hf2,Zo (.inl (Ae c6))⟩ (by simp only;omega) ?_
     (refine Wk.forget ?_;simp[ZF];done)
   cases c7:s.Cz
   . simp only[go_sem,Cd,Ab,QD,C0,c6,c7,Wb];refine R1 (i+1,f2) _ ⟨hit,by simp only;omega,hf2,Zo (.inr c7)⟩ (by simp only;omega) ?_
     (refine Wk.forget ?_;simp[ZF];done)
   have Zs:=Ad c6;have Ye:=Ca j (by omega);have hwx:IntKind.i64.wrap (s.base+(j:Int))=s.base+(j:Int):=by rw[B2]<;>omega
   have Ml:sp.any (Md (s.base+(j:Int)))=true:=by
     rw[AU];exact ⟨s,E0,by unfold Md;rw[c7];simp;omega⟩
   simp only[go_sem,Cd,Ab,QD,C0,c6,c7,hwx,BW,e4];refine Pc rfl rfl ?_;simp only[go_sem,JL];refine UO (Aqy rb (s.base+(j:Int)) (by omega)) ?_;rintro h' r ⟨rfl,rfl⟩;simp only[go_sem];cases c8:decide (s.base+(j:Int)∈rb);rotate_left
   . simp only[go_sem,c8,Ye];refine Vh (j+1,f2) _ ⟨by simp only;omega,by simp only;omega,by simp only;omega,hf2,Acs,λ v hv=>?_⟩ (by simp only;omega) ?_
     . rcases AF.1 hv with h5 | rfl
       . exact hcj v h5
       . exact .inl (Ad c8)
     . (refine Wk.forget ?_;simp[ZF];done)
   . simp only[go_sem,c8,BW];refine ⟨⟨Dq _ _ rfl,by omega⟩,?_⟩;simp only[go_sem,Ye];refine Vh (j+1,f2++[s.base+(j:Int)]) _ ⟨by simp only;omega,by simp only;omega,by simp;omega,λ x hx=>?_,λ u hu v hd hv=>?_,λ v hv=>?_⟩ (by simp only;omega) ?_
     . rcases Av.1 hx with hx | hx
       . exact hf2 x hx
       . rw[Aw] at hx;subst hx;exact ⟨Ml,Ae c8⟩
     . rcases Acs u hu v hd hv with h5 | h5
       . exact .inl h5
       . exact .inr (BM _ h5)
     . rcases AF.1 hv with h5 | rfl
       . rcases hcj v h5 with h6 | h6
         . exact .inl h6
         . exact .inr (BM _ h6)
       . exact .inr (by simp)
     . (refine Wk.forget ?_;simp[ZF,DN,BW];done)
 have Wf:i=sp.length:=by have:=Ae c5;omega
 subst Wf;obtain ⟨s,hs,j,hd,hj,Bb8⟩:=Afl hss _ (rb:=rb) (by have:=Ad c4;rw[Bb1] at Mg;exact Int.lt_of_lt_of_le this Mg);obtain ⟨u,hu,rfl⟩:=AA.1 hs;have hfne:0<fr.length:=by
   have h5:=Aut u hu j (by rw[getD_eq hu];exact hd) (by rw[getD_eq hu];exact hj);rw[getD_eq hu] at h5;exact List.length_pos_of_mem (h5.resolve_left Bb8)
 obtain ⟨v,hv,Rg⟩:=CT l b fr.length (by omega);have hkp:1<=k:=by have:=Ad c3;omega
 obtain ⟨k,rfl⟩:∃j,k=j+1:=⟨k - 1,by omega⟩;have Hb:=HK k (by omega);have hgv:=Ch fr v (by omega);have Pl:(0:Int)<=(v:Int)/\(v:Int)<(fr.length:Int):=by omega
 have hx:=hfr _ (CB fr v 0 (by omega));simp only[go_sem,c5,Cd];refine Di [(5,.box [.ref 43 0 bl.length bl.length,.ref 48 0 bl.length bl.length,.ref 102 0 sp.length sp.length,.ref 188 0 rb.length rb.length,.p (.int .i64 (1+q1)),.p (.int .i64 q2),.p (.int .i64 q3),.p (.int .i64 (1+q4))]),(177,.arr 3 1 (BY fr))] mixed (p:=[(0,0),(1,0),(2,0),(3,0),(4,0),(5,0),(6,2),(7,0),(8,0),(9,1),(10,2),(11,0),(12,3)]) (by kernel_rfl) (by simp[C3,get]) ?_;simp only[go_sem,BW];refine Gq ((C6 l b fr.length (by omega) (CJ _ (by omega) (by omega)))) ?_;simp only[go_sem,Dg,hv,BW,Ab,hgv,Pl];refine ⟨⟨Dq _ _ rfl,by omega⟩,?_⟩;simp only[go_sem,Hb];refine ih (k,b+1,rb++[fr.getD v 0]) _ ⟨by simp;omega,by simp only;omega,I0 Yi hx.1 hx.2,.inr (by have:=Ad c4;simp;omega)⟩ (by simp only;omega) ?_
 (refine Wk.forget ?_;simp[ZF,DN,BW];done)
theorem Aqb(l:List Int)(at_ OO:Nat)(Ji:at_<100000)(Wd:1<=OO)(SC:OO<=10):
   B1 prog 24 [.ptr 1000000 0,.p (.int .i64 (OO:Nat))] [(1000000,.box (Dg l at_))]
     λ h r=>∃at2 n,at2<=at_+200/\Aox n/\h=[(1000000,.box (Dg l at2)),(0,.arr 76 3 (CV n.blocks)),(1,.arr 22 1 (Cj n.next)),(2,.arr 68 6 (CQ n.spurs)),(3,.arr 3 1 (BY n.B5))]/\r= .agg n.os:=
 (Ak7 (λ _ _=>True) (λ n hn=>(Als n hn).mono λ _ _ ⟨h1,o,sl,cap,h2,h3,h4⟩=>⟨h1,o,sl,cap,h2,h3,h4,trivial⟩) l at_ OO Ji Wd SC).mono
   λ _ _ ⟨at2,n,h1,h2,h3⟩=>⟨at2,n,h1,h2.1,h3⟩
def bnm(n:Nt)(x:Int):List UInt8:=(n.blocks.getD x.toNat FG).name
def SK(b:Eh):Dc:=⟨1,0,[b.name],[b.x,b.y]⟩
def Ra(n:Nt)(i:Nat)(x:Int):Dc:=⟨2,0,[(n.blocks.getD i FG).name,bnm n x],[]⟩
def Zc(n:Nt)(i:Nat):List Dc:=(n.next.getD i []).map (Ra n i)
def Pr(n:Nt)(s:C5):Dc:=⟨if s.Cz then 4 else 3,0,[s.name,bnm n s.HA,bnm n s.out],[s.Cs]⟩
def V9(x:Int)(s:C5):Bool:=decide (s.base<=x)&&decide (x<s.base+s.Cs)
def Sw(r:Int)(s:C5):Dc:=⟨5,0,[s.name],[r - s.base+1]⟩
def Sv(n:Nt)(r:Int)(k:Nat):List Dc:=((n.spurs.take k).filter (V9 r)).map (Sw r)
def K8(n:Nt):List Dc:=n.blocks.map SK
def IT(n:Nt)(i:Nat):List Dc:=(List.range i).flatMap (Zc n)
def Ot(n:Nt):List Dc:=n.spurs.map (Pr n)
def K7(n:Nt)(i:Nat):List Dc:=(n.B5.take i).flatMap λ r=>Sv n r n.spurs.length
def Gj(n:Nt):List Dc:=K8 n++IT n n.blocks.length++Ot n++K7 n n.B5.length++[⟨6,0,[],[n.cq,n.ca,n.cd,n.cp]⟩]
def Ha:Nat->List Dc->List Dc
 | _,[]=>[]
 | i,x::r=>⟨x.word,(i:Int)+1,x.names,x.B7⟩::Ha (i+1) r
def DT(n:Nt):List Dc:=Ha 0 (Gj n)
theorem GL:∀(i:Nat) (l:List Dc),(Ha i l).length=l.length
 | _,[]=>rfl
 | i,_::r=>by simp[Ha,GL (i+1) r]
theorem UC(n:Nt)(i:Nat):IT n (i+1)=IT n i++Zc n i:=by simp[IT,List.range_succ,List.flatMap_append]
theorem UB(n:Nt)(i:Nat)(h:i<n.B5.length):K7 n (i+1)=K7 n i++Sv n (n.B5.getD i 0) n.spurs.length:=by
 unfold K7;rw[CI n.B5 i 0 h,List.flatMap_append];simp
theorem Adw(n:Nt)(r:Int)(k:Nat)(h:k<n.spurs.length):Sv n r (k+1)=Sv n r k++(if V9 r (n.spurs.getD k Co) then [Sw r (n.spurs.getD k Co)] else []):=by
 unfold Sv;rw[CI n.spurs k Co h,List.filter_append,Bj];generalize n.spurs.getD k Co=s;cases hh:V9 r s<;>simp[hh]
theorem Ahg(l:List Dc)(i:Nat)(x:Dc):DM (l.set i x)=(DM l).set i [.int .i64 x.word,.int .i64 x.line,.sl (Cw x.names),.sl (BY x.B7)]:=by simp[DM,Bl]
theorem Y2:∀(i:Nat) (a b:List Dc),Ha i (a++b)=Ha i a++Ha (i+a.length) b
 | _,[],_=>by simp[Ha]
 | i,x::r,b=>by simp only[A5,Ha,Y2 (i+1) r b,Al];rw[show i+1+r.length=i+(r.length+1) by omega]
theorem Ak4(L:List Dc)(i:Nat)(h:i<L.length):(Ha 0 (L.take i)++L.drop i).set i ⟨(L.getD i II).word,(i:Int)+1,(L.getD i II).names,(L.getD i II).B7⟩=Ha 0 (L.take (i+1))++L.drop (i+1):=by
 rw[CI L i II h,Y2,C8 L i II h,List.set_append_right _ _ (by rw[GL];simp;omega),GL,Bf,show min i L.length=i by omega];simp[Ha]
theorem Z2(n:Nt)(hn:validN n):B1 prog 53 [.agg n.cs] [] λ h r=>h=[]/\r= .Dr [.p (.sl (DM (DT n))),.p (.int .i64 0)]:=by
 have hV:=QL n (EW hn);rw[Ag hn] at hV;obtain ⟨⟨R7,Ab2,N6,KS⟩,hs6,hnm,hr8,hcf,Iq,Yi,hdp⟩:=hn;refine B0 func53 rfl ZN (by simp[Tryz.f53]) ?_;simp only[go_sem,Nt.cs];refine Cq ((hV)) ?_;simp only[go_sem];refine B4 (λ q:Nat×List Dc=>⟨[(1,.ptr 1 0),(4,.ref 43 0 q.2.length q.2.length),(5,.p (.int .i64 (q.1:Nat)))],[(1,.box (Nt.cs n)),(43,.arr 82 4 (DM q.2))],210⟩)
   (λ q=>q.1<=n.blocks.length/\q.2.length=q.1/\q.2=(n.blocks.take q.1).map SK) (λ q=>n.blocks.length - q.1) (0,[]) ⟨AD _,rfl,rfl⟩ ((Wk.nil (t:=4) (q:=43) (sz:=4) 82 rfl rfl (by decide)).trans (Wk.forget (by simp[ZF,Nt.cs,DM]))) ?_
 rintro ⟨i,acc⟩ m ⟨hi,Hf,T8⟩ ih;simp only at hi Hf T8;cases c1:decide ((i:Int)<(n.blocks.length:Int));rotate_left
 . have hit:i<n.blocks.length:=by have:=Ad c1;omega
   have hw:=Ca i (by omega);have hg:=JJ n.blocks i hit;have C0:(0:Int)<=(i:Int)/\(i:Int)<(n.blocks.length:Int):=by omega
   have QB:=CI n.blocks i FG hit;simp only[go_sem,Nt.cs,Cf,c1,Ab,hg,C0,CO];refine ⟨⟨Dq _ _ rfl,by omega⟩,?_⟩;simp only[go_sem,hw];refine ih (i+1,acc++[SK (n.blocks.getD i FG)]) _ ⟨hit,by simp[Hf],by simp only;rw[QB,Bj,T8];rfl⟩ (by simp only;omega) ?_
   (refine Wk.forget ?_;simp[ZF,Nt.cs,FO,CO,SK,Cw,BY];done)
 have Wf:i=n.blocks.length:=by have:=Ae c1;omega
 subst Wf;rw[Ar] at T8;have N8:acc=K8 n:=T8;clear ih T8;simp only[go_sem,Nt.cs,Cf,c1];refine B4 (λ q:Nat×List Dc=>⟨[(1,.ptr 1 0),(4,.ref 43 0 q.2.length q.2.length),(7,.p (.int .i64 (q.1:Nat)))],[(1,.box (Nt.cs n)),(43,.arr 82 4 (DM q.2))],210⟩)
   (λ q=>q.1<=n.blocks.length/\q.2.length<=24+4*q.1/\q.2=K8 n++IT n q.1) (λ q=>n.blocks.length - q.1) (0,acc) ⟨AD _,by simp only;omega,by simp[N8,IT]⟩ (Wk.forget (by simp[ZF,Nt.cs,DM])) ?_
 rintro ⟨i,Arv⟩ m2 ⟨hi,Bbx,Ali⟩ ih;simp only at hi Bbx Ali;cases c2:decide ((i:Int)<(n.blocks.length:Int));rotate_left
 . have hit:i<n.blocks.length:=by have:=Ad c2;omega
   have hw:=Ca i (by omega);have hg:=JJ n.blocks i hit;have C0:(0:Int)<=(i:Int)/\(i:Int)<(n.blocks.length:Int):=by omega
   have H7:(0:Int)<=(i:Int)/\(i:Int)<(n.next.length:Int):=by omega
   have hgn:=Gi n.next i (by omega)
   obtain ⟨_,hr4,Dj⟩:=KS i hit;have Bbe:Zc n i=(n.next.getD i []).map (Ra n i):=rfl;generalize n.next.getD i []=row at*
   simp only[go_sem,Nt.cs,Cf,c2];refine B4 (λ q:Nat×List Dc=>⟨[(1,.ptr 1 0),(4,.ref 43 0 q.2.length q.2.length),(7,.p (.int .i64 (i:Nat))),(8,.p (.int .i64 (q.1:Nat)))],[(1,.box (Nt.cs n)),(43,.arr 82 4 (DM q.2))],210⟩)
     (λ q=>q.1<=row.length/\q.2.length=Arv.length+q.1/\q.2=Arv++(row.take q.1).map (Ra n i)) (λ q=>row.length - q.1) (0,Arv) ⟨AD _,rfl,by simp⟩ (Wk.forget (by simp[ZF,Nt.cs,DM])) ?_
   rintro ⟨k,n7⟩ m3 ⟨hk,Aux,R8⟩ HG;simp only at hk Aux R8;cases c3:decide ((k:Int)<(row.length:Int))
   . have hke:k=row.length:=by have:=Ae c3;omega
     subst hke;simp only[go_sem,Nt.cs,Cb,BW,Ab,hgn,H7,c3,hw];refine ih (i+1,n7) _ ⟨hit,by simp only;omega,by simp only;rw[R8,Ar,UC,Bbe,Ali,A8]⟩ (by simp only;omega) ?_
     (refine Wk.forget ?_;simp[ZF,Nt.cs];done)
   have JR:k<row.length:=by have:=Ad c3;omega
   have Hb:=Ca k (by omega);have G5:(0:Int)<=(k:Int)/\(k:Int)<(row.length:Int):=by omega
   have hro:=Dj k JR;obtain ⟨x,hx⟩:∃x:Nat,row.getD k 0=(x:Int):=⟨(row.getD k 0).toNat,by have:=hro.1;omega⟩;have hxb:x<n.blocks.length:=by have:=hro.2.1;omega
   have L5:=Ch row k JR;rw[hx] at L5;have hgx:=JJ n.blocks x hxb;have hx0:(0:Int)<=(x:Int)/\(x:Int)<(n.blocks.length:Int):=by omega
   have QB:=CI row k 0 JR;rw[hx] at QB;simp only[go_sem,Nt.cs,Cb,BW,Ab,hgn,H7,c3];refine Di [(1,.box (Nt.cs n))] mixed (p:=[(0,0),(1,0),(2,0),(3,0),(4,0),(5,0),(6,0),(7,0),(8,0),(9,0),(10,0),(11,0),(12,0),(13,0),(14,0),(15,0),(16,0),(17,0),(18,0),(19,0),(20,1),(21,0),(22,2),(23,2),(24,0)]) (by kernel_rfl) (by simp[C3,get,Nt.cs]) ?_;simp only[go_sem,Nt.cs,Cf,Cb,BW,Ab,hgn,H7,hg,C0,L5,G5,hgx,hx0,CO];refine ⟨⟨Dq _ _ rfl,by omega⟩,?_⟩;simp only[go_sem,Hb];refine HG (k+1,n7++[Ra n i (x:Int)]) _ ⟨JR,by simp;omega,by simp only;rw[QB,Bj,R8,A8];rfl⟩ (by simp only;omega) ?_
   (refine Wk.forget ?_;simp[ZF,Nt.cs,FO,CO,Ra,bnm,Cw,BY];done)
 have Wf:i=n.blocks.length:=by have:=Ae c2;omega
 subst Wf;clear ih;simp only[go_sem,Nt.cs,Cf,c2];refine B4 (λ q:Nat×List Dc=>⟨[(1,.ptr 1 0),(4,.ref 43 0 q.2.length q.2.length),(9,.p (.int .i64 (q.1:Nat)))],[(1,.box (Nt.cs n)),(43,.arr 82 4 (DM q.2))],210⟩)
   (λ q=>q.1<=n.spurs.length/\q.2.length<=200+q.1/\q.2=K8 n++IT n n.blocks.length++(n.spurs.take q.1).map (Pr n)) (λ q=>n.spurs.length - q.1) (0,Arv) ⟨AD _,by simp only;omega,by simp[Ali]⟩ (Wk.forget (by simp[ZF,Nt.cs,DM])) ?_
 rintro ⟨i,n7⟩ m4 ⟨D7,Aux,R8⟩ ih;simp only at D7 Aux R8;cases c4:decide ((i:Int)<(n.spurs.length:Int));rotate_left
 . have hit:i<n.spurs.length:=by have:=Ad c4;omega
   have hw:=Ca i (by omega);have hg:=Eo n.spurs i hit;have C0:(0:Int)<=(i:Int)/\(i:Int)<(n.spurs.length:Int):=by omega
   have QB:=CI n.spurs i Co hit;obtain ⟨g1,g2,g3,g4,_⟩:=Iq i hit;generalize n.spurs.getD i Co=s at*;obtain ⟨nm,dp,HA,out,sl,bs⟩:=s;simp only at g1 g2 g3 g4;obtain ⟨x,rfl⟩:∃x:Nat,HA=(x:Int):=⟨HA.toNat,by omega⟩;obtain ⟨y,rfl⟩:∃y:Nat,out=(y:Int):=⟨out.toNat,by omega⟩;have hgx:=JJ n.blocks x (by omega);have hgy:=JJ n.blocks y (by omega);have hx0:(0:Int)<=(x:Int)/\(x:Int)<(n.blocks.length:Int):=by omega
   have p4:(0:Int)<=(y:Int)/\(y:Int)<(n.blocks.length:Int):=by omega
   simp only[go_sem,Nt.cs,Cd,c4,Ab,hg,C0];refine CH mixed (p:=[(0,0),(1,0),(2,0),(3,0),(4,0),(5,0),(6,0),(7,0),(8,0),(9,0),(10,0),(11,0),(12,0),(13,0),(14,0),(15,0),(17,0),(18,0),(16,1),(19,1),(20,0),(21,1),(22,3)]) (by kernel_rfl) (by simp[C3,get]) ?_;simp only[go_sem,Nt.cs,Cf,Ab,hgx,hgy,hx0,p4];cases dp
   . simp only[go_sem,CO];refine ⟨⟨Dq _ _ rfl,by omega⟩,?_⟩;simp only[go_sem,hw];refine ih (i+1,n7++[Pr n ⟨nm,false,(x:Int),(y:Int),sl,bs⟩]) _ ⟨hit,by simp;omega,by simp only;rw[QB,Bj,R8,A8];rfl⟩ (by simp only;omega) ?_
     (refine Wk.forget ?_;simp[ZF,Nt.cs,FO,CO,Pr,bnm,Cw,BY];done)
   . simp only[go_sem,CO];refine ⟨⟨Dq _ _ rfl,by omega⟩,?_⟩;simp only[go_sem,hw];refine ih (i+1,n7++[Pr n ⟨nm,true,(x:Int),(y:Int),sl,bs⟩]) _ ⟨hit,by simp;omega,by simp only;rw[QB,Bj,R8,A8];rfl⟩ (by simp only;omega) ?_
     (refine Wk.forget ?_;simp[ZF,Nt.cs,FO,CO,Pr,bnm,Cw,BY];done)
 have Wf:i=n.spurs.length:=by have:=Ae c4;omega
 subst Wf;clear ih;simp only[go_sem,Nt.cs,Cd,c4];have Bbs:n7=K8 n++IT n n.blocks.length++Ot n:=by rw[R8,Ar];rfl
 have hd3:True:=trivial;have Auv:∀k,k<n.spurs.length->0<=(n.spurs.getD k Co).base/\(n.spurs.getD k Co).base<=1000/\1<=(n.spurs.getD k Co).Cs/\(n.spurs.getD k Co).Cs<=4:=λ k hk=>by
   have h3:=Iq k hk;have h4:=Ie n.blocks.length n.spurs k (by omega) (λ j hj=>Iq j (by omega));obtain ⟨_,_,_,_,h5,h6,h7⟩:=h3;omega
 refine B4 (λ q:Nat×List Dc=>⟨[(1,.ptr 1 0),(4,.ref 43 0 q.2.length q.2.length),(12,.p (.int .i64 (q.1:Nat)))],[(1,.box (Nt.cs n)),(43,.arr 82 4 (DM q.2))],210⟩)
   (λ q=>q.1<=n.B5.length/\q.2.length<=300+6*q.1/\q.2=n7++K7 n q.1) (λ q=>n.B5.length - q.1) (0,n7) ⟨AD _,by simp only;omega,by simp[K7]⟩ (Wk.forget (by simp[ZF,Nt.cs,DM])) ?_
 rintro ⟨i,Aru⟩ m5 ⟨hi3,Bbw,Alh⟩ ih;simp only at hi3 Bbw Alh;cases c5:decide ((i:Int)<(n.B5.length:Int));rotate_left
 . have hit:i<n.B5.length:=by have:=Ad c5;omega
   have hw:=Ca i (by omega);have hgr:=Ch n.B5 i hit;have C0:(0:Int)<=(i:Int)/\(i:Int)<(n.B5.length:Int):=by omega
   have hd4:=UB n i hit;have Al0:∃s∈n.spurs,Md (n.B5.getD i 0) s=true:=AU.1 (Yi i hit).1;generalize n.B5.getD i 0=x at*;simp only[go_sem,Nt.cs,BW,c5];refine B4 (λ q:Nat×List Dc=>⟨[(1,.ptr 1 0),(4,.ref 43 0 q.2.length q.2.length),(12,.p (.int .i64 (i:Nat))),(13,.p (.int .i64 (q.1:Nat)))],[(1,.box (Nt.cs n)),(43,.arr 82 4 (DM q.2))],210⟩)
     (λ q=>q.1<=n.spurs.length/\q.2.length<=Aru.length+q.1/\q.2=Aru++Sv n x q.1) (λ q=>n.spurs.length - q.1) (0,Aru) ⟨AD _,by simp,by simp[Sv]⟩ (Wk.forget (by simp[ZF,Nt.cs,DM])) ?_
   rintro ⟨k,Art⟩ m6 ⟨hk,Bbv,Zu⟩ HG;simp only at hk Bbv Zu;cases c6:decide ((k:Int)<(n.spurs.length:Int))
   . have hke:k=n.spurs.length:=by have:=Ae c6;omega
     subst hke;simp only[go_sem,Nt.cs,Cd,c6,hw];refine ih (i+1,Art) _ ⟨hit,by simp only;omega,by simp only;rw[Zu,hd4,Alh,A8]⟩ (by simp only;omega) ?_
     (refine Wk.forget ?_;simp[ZF,Nt.cs];done)
   have JR:k<n.spurs.length:=by have:=Ad c6;omega
   have Hb:=Ca k (by omega);have L5:=Eo n.spurs k JR;have G5:(0:Int)<=(k:Int)/\(k:Int)<(n.spurs.length:Int):=by omega
   have hb:=Auv k JR;have hrs:=Adw n x k JR;generalize n.spurs.getD k Co=s at*;obtain ⟨nm,dp,HA,out,sl,bs⟩:=s;simp only at hb;have Yf:IntKind.i64.wrap (bs+sl)=bs+sl:=by rw[B2]<;>omega
   simp only[go_sem,Nt.cs,Cd,c6,Ab,L5,G5];refine CH mixed (p:=[(0,0),(1,0),(2,0),(3,0),(4,0),(5,0),(6,0),(7,0),(8,0),(9,0),(10,0),(11,0),(12,0),(13,0),(14,0),(15,0),(16,0),(17,0),(18,0),(19,0),(20,0)]) (by kernel_rfl) (by simp[C3,get]) ?_;cases c7:decide (bs<=x)
   . simp only[go_sem,Nt.cs,BW,Ab,hgr,C0,c7,Hb];refine HG (k+1,Art) _ ⟨JR,by simp only;omega,by simp only;rw[hrs,Zu];simp[V9,c7]⟩ (by simp only;omega) ?_
     (refine Wk.forget ?_;simp[ZF,Nt.cs];done)
   cases c8:decide (x<bs+sl)
   . simp only[go_sem,Nt.cs,BW,Ab,hgr,C0,c7,Yf,c8,Hb];refine HG (k+1,Art) _ ⟨JR,by simp only;omega,by simp only;rw[hrs,Zu];simp[V9,c7,c8]⟩ (by simp only;omega) ?_
     (refine Wk.forget ?_;simp[ZF,Nt.cs];done)
   have IB:=Ad c7;have HH:=Ad c8;have hwd:IntKind.i64.wrap (x - bs)=x - bs:=by rw[B2]<;>omega
   have hwe:IntKind.i64.wrap (x - bs+1)=x - bs+1:=by rw[B2]<;>omega
   simp only[go_sem,Nt.cs,BW,Ab,hgr,C0,c7,Yf,c8];refine Di [(1,.box (Nt.cs n)),(14,.box [.p (.str nm),.p (.bool dp),.p (.int .i64 HA),.p (.int .i64 out),.p (.int .i64 sl),.p (.int .i64 bs)])] mixed (p:=[(0,0),(1,0),(2,0),(4,0),(5,0),(6,0),(7,0),(8,0),(9,0),(10,0),(11,0),(12,0),(3,1),(13,1),(14,0),(15,2),(16,2),(17,0)]) (by kernel_rfl) (by simp[C3,get,Nt.cs]) ?_;simp only[go_sem,Nt.cs,BW,Ab,hgr,C0,hwd,hwe,CO];refine ⟨⟨Dq _ _ rfl,by omega⟩,?_⟩;simp only[go_sem,Hb];refine HG (k+1,Art++[Sw x ⟨nm,dp,HA,out,sl,bs⟩]) _ ⟨JR,by simp;omega,by simp only;rw[hrs,Zu];simp[V9,c7,c8]⟩ (by simp only;omega) ?_
   (refine Wk.forget ?_;simp[ZF,Nt.cs,FO,CO,Sw,Cw,BY];done)
 have Wf:i=n.B5.length:=by have:=Ae c5;omega
 subst Wf;clear ih;simp only[go_sem,Nt.cs,BW,c5,CO];refine ⟨⟨Dq _ _ rfl,by omega⟩,?_⟩;have hd0:Aru++[⟨6,0,[],[n.cq,n.ca,n.cd,n.cp]⟩]=Gj n:=by rw[Alh,Bbs];rfl
 have hLn:(Gj n).length<=400:=by rw[<-hd0];simp;omega
 have hdv:Ha 0 (Gj n)=DT n:=rfl;generalize Gj n=L at*;refine B4 (λ q:Nat×List Dc=>⟨[(4,.ref 43 0 q.2.length q.2.length),(16,.p (.int .i64 (q.1:Nat)))],[(43,.arr 82 4 (DM q.2))],210⟩)
   (λ q=>q.1<=L.length/\q.2=Ha 0 (L.take q.1)++L.drop q.1) (λ q=>L.length - q.1) (0,L) ⟨AD _,by simp[Ha]⟩ (Wk.forget (by simp[ZF,<-hd0,FO,Cw,BY,CO])) ?_
 rintro ⟨i,o⟩ m7 ⟨hi4,ho⟩ ih;simp only at hi4 ho;have Wc:o.length=L.length:=by rw[ho];simp[GL];omega
 cases c9:decide ((i:Int)<(L.length:Int))
 . have Wf:i=L.length:=by have:=Ae c9;omega
   subst Wf;simp only[go_sem,CO,Wc,c9];refine BX ?_;simp only[go_sem];rw[Ar,A2,List.append_nil] at ho;subst ho;rw[<-hdv,AE (by rw[CO];omega)];try exact ⟨by rw[CO];omega,rfl⟩
 . have hit:i<L.length:=by have:=Ad c9;omega
   have hw:=Ca i (by omega);have C0:(0:Int)<=(i:Int)/\(i:Int)<(L.length:Int):=by omega
   have hgx:=ZW o i (by omega);have hox:o.getD i II=L.getD i II:=by
     rw[ho,List.getD,A1 (by rw[GL,Bf];omega),AS,GL,Bf,List.getD]
     congr 2;omega
   rw[hox] at hgx;have EM:=Ak4 L i hit;rw[<-ho] at EM;generalize L.getD i II=x at*;simp only[go_sem,CO,Wc,c9,Ab,C0,hgx,hw];refine ih (i+1,o.set i ⟨x.word,(i:Int)+1,x.names,x.B7⟩) _ ⟨hit,EM⟩ (by simp only;omega) ?_
   (refine Wk.forget ?_;simp[ZF,Ahg,CO,Wc];done)
theorem Is{α β:Type}(f:α->List β)(k:Nat):∀l:List α,(∀x∈l,(f x).length<=k)->(l.flatMap f).length<=l.length*k
 | [],_=>by simp
 | x::r,h=>by
   have h1:=h x (by simp);have h2:=Is f k r (λ y hy=>h y (by simp[hy]));simp only[List.flatMap_cons,Aq,Al,Bc,Nat.one_mul];omega
structure CD where
 bl:List Eh
 nx:List (List Int)
 sp:List C5
 cq:Int
 ca:Int
 cd:Int
 cp:Int
 mb:List (List UInt8×Int)
 ms:List (List UInt8×Int)
 ba:List Int
 sl:Int
 pl:List (Int×Int)
 cf:Bool
def encR(l:List (List Int)):List (List (List Pd)):=l.map BY
def IG(l:List (Int×Int)):List (List Pd):=l.map λ p=>[.int .i64 p.1,.int .i64 p.2]
theorem It(l:List (List Int)):(encR l).length=l.length:=by simp[encR]
theorem EJ(l:List (Int×Int)):(IG l).length=l.length:=by simp[IG]
theorem M8(l:List (List Int))(i:Nat):(encR l).getD i []=BY (l.getD i []):=by
 unfold encR;by_cases h:i<l.length
 . simp[List.getD,h]
 . simp[List.getD,h,BY]
theorem Ah9(l:List (List Int)):encR l++[[]]=encR (l++[[]]):=by simp[encR,BY]
theorem ZT(l:List (List Int))(i:Nat)(r:List Int):encR (l.set i r)=(encR l).set i (BY r):=by simp[encR,Bl]
theorem Aha(l:List (Int×Int))(p:Int×Int):IG (l++[p])=IG l++[[.int .i64 p.1,.int .i64 p.2]]:=by simp[IG]
def CD.box(b:CD):List D:=[.ref 1000001 0 b.bl.length b.bl.length,.Dt 1000002 b.nx.length,.ref 1000003 0 b.sp.length b.sp.length,.cl [],.p (.int .i64 b.cq),.p (.int .i64 b.ca),.p (.int .i64 b.cd),.p (.int .i64 b.cp),
 .mv 1000004,.mv 1000005,.ref 1000006 0 b.ba.length b.ba.length,.p (.int .i64 b.sl),.ref 1000007 0 b.pl.length b.pl.length,.p (.bool b.cf)]
def CD.h(b:CD)(k:Nat):Hp:=[(1000000,.box b.box),(1000001,.arr 76 3 (CV b.bl)),(1000002,.Dp 22 3 1 k (encR b.nx) none),(1000003,.arr 68 6 (CQ b.sp)),
 (1000004,.mp (Kr b.mb)),(1000005,.mp (Kr b.ms)),(1000006,.arr 3 1 (BY b.ba)),(1000007,.arr 120 2 (IG b.pl))]
theorem CD.FR(b:CD)(k:Nat):b.h k=[(1000000,.box [.ref 1000001 0 b.bl.length b.bl.length,.Dt 1000002 b.nx.length,.ref 1000003 0 b.sp.length b.sp.length,.cl [],.p (.int .i64 b.cq),.p (.int .i64 b.ca),.p (.int .i64 b.cd),.p (.int .i64 b.cp),
 .mv 1000004,.mv 1000005,.ref 1000006 0 b.ba.length b.ba.length,.p (.int .i64 b.sl),.ref 1000007 0 b.pl.length b.pl.length,.p (.bool b.cf)]),(1000001,.arr 76 3 (CV b.bl)),(1000002,.Dp 22 3 1 k (encR b.nx) none),(1000003,.arr 68 6 (CQ b.sp)),
 (1000004,.mp (Kr b.mb)),(1000005,.mp (Kr b.ms)),(1000006,.arr 3 1 (BY b.ba)),(1000007,.arr 120 2 (IG b.pl))]:=rfl
def CD.Kd(b:CD)(x:List UInt8):Bool:=(Eg b.mb x).isSome||(Eg b.ms x).isSome
theorem Il(b:CD)(k:Nat)(x:List UInt8):B1 prog 141 [.ptr 1000000 0,.p (.str x)] (b.h k) λ h r=>h=b.h k/\r= .p (.bool (b.Kd x)):=by
 refine B0 func141 rfl Ag8 (by simp[Tryz.f141]) ?_;rw[CD.FR b k];simp only[go_sem,KK.fit,DI,DW,Aah];cases c:(Eg b.mb x).isSome
 . simp only[go_sem,c];try simp[CD.Kd,c]
 . simp only[go_sem,c];try simp[CD.Kd,c]
def CD.EP(b:CD)(d:Dc):Int×CD:=
 if b.Kd (d.names.getD 0 [])=true then (8,b) else if b.bl.length=24 then (14,b) else
   (0,{b with mb:=Iz b.mb (d.names.getD 0 []) b.bl.length,bl:=b.bl++[⟨d.names.getD 0 [],d.B7.getD 0 0,d.B7.getD 1 0⟩],nx:=b.nx++[[]]})
theorem Aoo(b:CD)(k:Nat)(d:Dc)(h1:1<=d.names.length)(h2:2<=d.B7.length)(hb:b.bl.length<=24)(hn:b.nx.length<=24):
   B1 prog 109 [.ptr 1000000 0,d.d] (b.h k) λ h r=>∃k',h=(b.EP d).2.h k'/\r= .p (.int .i64 (b.EP d).1):=by
 have e1:=Dz d.names 0 (by omega);have e2:=Ch d.B7 0 (by omega);have e3:=Ch d.B7 1 (by omega);refine B0 func109 rfl Agw (by simp[Tryz.f109]) ?_;rw[CD.FR b k];unfold Dc.d;simp only[go_sem,B3,e1];refine ⟨by omega,?_⟩;refine Cq (Il b k _) ?_;cases c:b.Kd (d.names.getD 0 []);rotate_left
 . simp only[go_sem,CD.FR b k,c];have hv:b.EP d=(8,b):=by unfold CD.EP;rw[if_pos c]
   rw[hv];exact ⟨k,rfl,rfl⟩
 cases c2:decide ((b.bl.length:Int)=24);rotate_left
 . simp only[go_sem,CD.FR b k,c,c2,Cf];have c3:b.bl.length=24:=by have:=Ad c2;omega
   have hv:b.EP d=(14,b):=by unfold CD.EP;rw[c,if_neg AJ,if_pos c3]
   rw[hv];exact ⟨k,rfl,rfl⟩
 have c3:¬b.bl.length=24:=by have:=Ae c2;omega
 simp only[go_sem,CD.FR b k,c,c2,Cf];refine Di [(1000000,.box b.box),(3,.box [.p (.int .i64 d.word),.p (.int .i64 d.line),.p (.sl (Cw d.names)),.p (.sl (BY d.B7))]),(1000001,.arr 76 3 (CV b.bl))] mixed (p:=[(0,0),(1,0),(2,0),(3,0),(4,0),(5,0),(6,0),(7,0),(8,0),(9,0),(10,0),(11,0),(12,0),(13,0),(14,3)]) (by kernel_rfl) (by simp[C3,get,CD.box]) ?_;unfold CD.box;simp only[go_sem,B3,e1,Cf,KK.fit,DI,TB,Pd.flat];refine ⟨by omega,?_⟩;refine Di [(1000000,.box b.box),(3,.box [.p (.int .i64 d.word),.p (.int .i64 d.line),.p (.sl (Cw d.names)),.p (.sl (BY d.B7))])] mixed (p:=[(0,0),(1,0),(2,0),(3,0),(4,0),(5,0),(6,0),(7,0),(8,0),(9,0),(10,0),(11,0),(12,0),(13,0),(14,0),(15,0),(16,0),(17,0),(18,0),(19,1),(20,2),(21,0),(22,0),(23,0),(24,3)]) (by kernel_rfl) (by simp[C3,get,CD.box]) ?_;unfold CD.box;simp only[go_sem,B3,e1,BW,e2,e3,Cf];refine ⟨by omega,by omega,by omega,⟨Dq _ _ rfl,by omega,by omega⟩,?_⟩;refine Ape rfl u5 Adl rfl rfl ?_;simp only[go_sem];refine Aie rfl rfl rfl rfl u5 u5 Adl rfl rfl (It _).symm rfl rfl (by omega) (by omega) ?_;simp only[go_sem];have hv:b.EP d=(0,{b with mb:=Iz b.mb (d.names.getD 0 []) b.bl.length,bl:=b.bl++[⟨d.names.getD 0 [],d.B7.getD 0 0,d.B7.getD 1 0⟩],nx:=b.nx++[[]]}):=by
   unfold CD.EP;rw[c,if_neg AJ,if_neg c3]
 rw[hv];refine ⟨k+1,?_,rfl⟩;simp only[CD.FR,WB,Ah9,Aq,Al,Ax,Bi,Cf]
def Af3(l:List Int)(x:Int):Int:=if x∈l then ((l.idxOf x:Nat):Int) else -1
theorem Zl{x:Int}:∀(l:List Int) (i:Nat),i<l.length->l.getD i 0=x->x∉l.take i->l.idxOf x=i
 | [],i,h,_,_=>by simp at h
 | y::r,0,_,h,_=>by simp at h;subst h;simp
 | y::r,i+1,h,h1,h2=>by
   simp only[List.take_succ_cons,AG,not_or] at h2;have:=Zl r i (by simpa using h) (by simpa [List.getD] using h1) h2.2;rw[List.idxOf_cons,this];have:(y==x)=false:=by simpa using λ e:y=x=>h2.1 e.symm
   rw[this];rfl
theorem Aqq{l:List Int}{x:Int}{i:Nat}(hi:i<l.length)(hx:l.getD i 0=x)(hn:x∉l.take i):Af3 l x=(i:Int):=by
 have h1:x∈l:=by rw[<-hx];exact CB l i 0 hi
 unfold Af3;rw[if_pos h1,Zl l i hi hx hn]
theorem Zj(l:List Int)(x:Int):decide (0<=Af3 l x)=decide (x∈l):=by
 unfold Af3;by_cases h:x∈l
 . rw[if_pos h];simp[h]
 . rw[if_neg h];simp[h]
theorem Aex(l:List Int)(x:Int)(hl:l.length<=10000000):
   B1 prog 171 [.ref 1000000 0 l.length l.length,.p (.int .i64 x)] [(1000000,.arr 3 1 (BY l))] λ h r=>h=[(1000000,.arr 3 1 (BY l))]/\r= .p (.int .i64 (Af3 l x)):=by
 refine B0 func171 rfl Ww (by simp[Tryz.f171]) ?_;simp only[go_sem,BW];refine B4 (λ i=>⟨[(0,.ref 1000000 0 l.length l.length),(1,.p (.int .i64 x)),(4,.p (.int .i64 0)),(7,.p (.int .i64 l.length)),(8,.p (.int .i64 (i:Nat)))],[(1000000,.arr 3 1 (BY l))],19⟩) (λ i=>i<=l.length/\x∉l.take i) (λ i=>l.length - i) 0 ⟨AD _,by simp⟩ (Wk.forget (by simp[ZF,BY])) ?_;rintro i n ⟨hi,he⟩ ih;simp only[go_sem,BW];refine Cv (λ h2=>?_) (λ h2=>?_)
 . have Cr:i<l.length:=by simp at h2;omega
   have hw:=Ca i (by omega);have hg:=Ch l i Cr;have C0:(0:Int)<=(i:Int)/\(i:Int)<(l.length:Int):=by omega
   have Ji:=λ h=>Aqq (x:=x) Cr h he;have hx:l[i]?=some (l.getD i 0):=by simp[List.getD,Cr]
   generalize l.getD i 0=y at*;simp only[go_sem,BW,Ab,hg,C0];cases hv:decide (x=y)
   . simp only[go_sem,hv,hw];refine ih (i+1) _ ⟨Cr,?_⟩ (by omega) ?_
     . rw[BP,hx];have:¬x=y:=Ae hv;simp[he,this]
     . (refine Wk.forget ?_;simp[ZF,BY];done)
   . simp only[go_sem,hv];rw[Ji (Ad hv).symm];try simp
 . simp only[go_sem];have:i=l.length:=by simp at h2;omega
   subst this;rw[Ar] at he;simp[Af3,he]
theorem XT(l:List Int)(x:Int)(hl:l.length<=10000000):
   B1 prog 142 [.ref 1000000 0 l.length l.length,.p (.int .i64 x)] [(1000000,.arr 3 1 (BY l))] λ h r=>h=[(1000000,.arr 3 1 (BY l))]/\r= .p (.bool (decide (x∈l))):=by
 refine B0 func142 rfl Ag7 (by simp[Tryz.f142]) ?_;simp only[go_sem,BW];refine Pc rfl rfl ?_;simp only[go_sem,JL];refine UO (Aex l x hl) ?_;rintro h' r ⟨rfl,rfl⟩;simp only[go_sem,Zj]
theorem XS(rows:List (List Int))(i k:Nat)(x:Int)(hi:i<rows.length)(hl:(rows.getD i []).length<=10000000):
   B1 prog 142 [.nr 1000000 i (rows.getD i []).length k,.p (.int .i64 x)] [(1000000,.Dp 22 3 1 k (encR rows) none)] λ h r=>h=[(1000000,.Dp 22 3 1 k (encR rows) none)]/\r= .p (.bool (decide (x∈rows.getD i []))):=by
 have hg:(encR rows)[i]?=some (BY (rows.getD i [])):=by simp[encR,List.getD,hi]
 refine (US (ps:=[.int .i64 x]) hg (BW _).symm (XT (rows.getD i []) x hl) (R':=λ es r=>es=BY (rows.getD i [])/\r= .p (.bool (decide (x∈rows.getD i [])))) ?_).mono ?_
 . rintro h' r ⟨rfl,rfl⟩;exact ⟨_,rfl,BW _,.inr ⟨_,rfl⟩,rfl,rfl⟩
 . rintro h' r ⟨N9,rfl,_,rfl,rfl⟩;refine ⟨?_,rfl⟩
   congr 4
   apply List.ext_getElem?;intro j;rw[BR];split
   . rename_i e;subst e;rw[hg];simp[encR,hi]
   . rfl
def CD.Fj(b:CD)(x y:List UInt8):Int×CD:=
 match Eg b.mb x,Eg b.mb y with
 | some i,some j=>if i=j then (10,b) else if j∈b.nx.getD i.toNat [] then (11,b) else if (b.nx.getD i.toNat []).length=4 then (14,b) else
     (0,{b with nx:=b.nx.set i.toNat (b.nx.getD i.toNat []++[j])})
 | _,_=>(9,b)
theorem Aqh(b:CD)(k:Nat)(x y:List UInt8)(hm:∀x i,Eg b.mb x=some i->∃n:Nat,i=(n:Int)/\n<b.nx.length)(hr:∀i,(b.nx.getD i []).length<=24):
   B1 prog 110 [.ptr 1000000 0,.p (.str x),.p (.str y)] (b.h k) λ h r=>∃k',h=(b.Fj x y).2.h k'/\r= .p (.int .i64 (b.Fj x y).1):=by
 refine B0 func110 rfl Agv (by simp[Tryz.f110]) ?_;rw[CD.FR b k];cases c1:Eg b.mb x with
 | none=>
   simp only[go_sem,KK.fit,DI,DW,EI,c1,Bg,Option.getD_none];have hv:b.Fj x y=(9,b):=by unfold CD.Fj;rw[c1]
   rw[hv];exact ⟨k,rfl,rfl⟩
 | some i=>
   cases c2:Eg b.mb y with
   | none=>
     simp only[go_sem,KK.fit,DI,DW,EI,c1,c2,Bg,Option.getD_none];have hv:b.Fj x y=(9,b):=by unfold CD.Fj;rw[c1,c2]
     rw[hv];exact ⟨k,rfl,rfl⟩
   | some j=>
     obtain ⟨n,rfl,hn⟩:=hm x i c1;cases c3:decide ((n:Int)=j);rotate_left
     . simp only[go_sem,KK.fit,DI,DW,EI,c1,c2,c3];have c3':(n:Int)=j:=Ad c3;have hv:b.Fj x y=(10,b):=by unfold CD.Fj;rw[c1,c2];simp only;rw[if_pos c3']
       rw[hv];exact ⟨k,rfl,rfl⟩
     have c3':¬(n:Int)=j:=Ae c3;have hn0:(0:Int)<=(n:Int)/\(n:Int)<(b.nx.length:Int):=by omega
     simp only[go_sem,KK.fit,DI,DW,EI,c1,c2,c3,hn0,Ab,M8,BW,It];refine Cq (XS b.nx n k j hn (by have:=hr n;omega)) ?_;cases c4:decide (j∈b.nx.getD n []);rotate_left
     . simp only[go_sem,c4];have r9:j∈b.nx.getD n []:=Ad c4;have hv:b.Fj x y=(11,b):=by unfold CD.Fj;rw[c1,c2];simp only[Ab];rw[if_neg c3',if_pos r9]
       rw[hv];exact ⟨k,rfl,rfl⟩
     have r9:¬j∈b.nx.getD n []:=Ae c4;have hrn:=hr n;cases c5:decide (((b.nx.getD n []).length:Int)=4);rotate_left
     . simp only[go_sem,c4,c5,hn0,Ab,M8,BW,It];have c5':(b.nx.getD n []).length=4:=by have:=Ad c5;omega
       have hv:b.Fj x y=(14,b):=by unfold CD.Fj;rw[c1,c2];simp only[Ab];rw[if_neg c3',if_neg r9,if_pos c5']
       rw[hv];exact ⟨k,rfl,rfl⟩
     have c5':¬(b.nx.getD n []).length=4:=by have:=Ae c5;omega
     simp only[go_sem,c4,c5,hn0,Ab,M8,BW,It];refine Di [(1000000,.box b.box)] mixed (p:=[(0,0),(1,0),(2,0),(3,0),(4,0),(5,0),(6,0),(7,0),(8,0),(9,0),(10,0),(11,0),(12,0),(14,0),(15,1),(13,2),(16,2),(17,0),(18,3)]) (by kernel_rfl) (by simp[C3,get,CD.box]) ?_;unfold CD.box;simp only[go_sem,hn0,Ab,M8,BW,It];refine ⟨⟨Dq _ _ rfl,hn,by omega,by omega⟩,?_⟩;have hv:b.Fj x y=(0,{b with nx:=b.nx.set n (b.nx.getD n []++[j])}):=by
       unfold CD.Fj;rw[c1,c2];simp only[Ab];rw[if_neg c3',if_neg r9,if_neg c5']
     rw[hv];refine ⟨k+1+1,?_,rfl⟩;simp only[CD.FR,ZT,DN,A0]
def CD.EC(b:CD)(d:Dc):Int×CD:=
 if b.Kd (d.names.getD 0 [])=true then (8,b) else match Eg b.mb (d.names.getD 1 []),Eg b.mb (d.names.getD 2 []) with
 | some i,some j=>if decide (d.B7.getD 0 0<1)=true then (12,b) else if decide (4<d.B7.getD 0 0)=true then (12,b) else if b.sp.length=6 then (14,b) else
     (0,{b with ms:=Iz b.ms (d.names.getD 0 []) b.sp.length,sp:=b.sp++[⟨d.names.getD 0 [],decide (d.word=4),i,j,d.B7.getD 0 0,0⟩],ba:=b.ba++[b.sl],sl:=b.sl+d.B7.getD 0 0})
 | _,_=>(9,b)
theorem Apo(b:CD)(k:Nat)(d:Dc)(h1:3<=d.names.length)(h2:1<=d.B7.length)(hb:b.sp.length<=6)(U2:b.ba.length<=6)(hs:0<=b.sl/\b.sl<=1000):
   B1 prog 113 [.ptr 1000000 0,d.d] (b.h k) λ h r=>∃k',h=(b.EC d).2.h k'/\r= .p (.int .i64 (b.EC d).1):=by
 have e1:=Dz d.names 0 (by omega);have e4:=Dz d.names 1 (by omega);have e5:=Dz d.names 2 (by omega);have e2:=Ch d.B7 0 (by omega);refine B0 func113 rfl Ags (by simp[Tryz.f113]) ?_;rw[CD.FR b k];unfold Dc.d;simp only[go_sem];cases c:b.Kd (d.names.getD 0 []);rotate_left
 . cases c1:Eg b.mb (d.names.getD 1 [])<;>cases c2:Eg b.mb (d.names.getD 2 [])<;>
   . skip
     refine Di [(1000000,.box b.box),(3,.box [.p (.int .i64 d.word),.p (.int .i64 d.line),.p (.sl (Cw d.names)),.p (.sl (BY d.B7))]),(1000004,.mp (Kr b.mb))] mixed (p:=[(0,0),(1,0),(2,0),(3,0),(4,0),(5,0),(6,0),(7,0),(8,0),(9,0),(10,0),(11,0),(12,0),(13,0)]) (by kernel_rfl) (by simp[C3,get,CD.box]) ?_;unfold CD.box;simp only[go_sem,B3,e1,e4,e5,KK.fit,DI,DW,EI,c1,c2,Bg];refine ⟨by omega,?_⟩;refine Di [(1000000,.box b.box),(3,.box [.p (.int .i64 d.word),.p (.int .i64 d.line),.p (.sl (Cw d.names)),.p (.sl (BY d.B7))]),(1000004,.mp (Kr b.mb))] mixed (p:=[(0,0),(1,0),(2,0),(3,0),(4,0),(5,0),(6,0),(7,0),(8,0),(9,0),(10,0),(11,0),(12,0),(13,0)]) (by kernel_rfl) (by simp[C3,get,CD.box]) ?_;unfold CD.box;simp only[go_sem,B3,e1,e4,e5,KK.fit,DI,DW,EI,c1,c2,Bg];refine ⟨by omega,by omega,?_⟩;refine Cq (Il b k _) ?_;simp only[go_sem,CD.FR b k,c];have hv:b.EC d=(8,b):=by unfold CD.EC;simp only[c];try simp
     rw[hv];exact ⟨k,rfl,rfl⟩
 cases c1:Eg b.mb (d.names.getD 1 []) with
 | none=>
   cases c2:Eg b.mb (d.names.getD 2 [])<;>
   . skip
     refine Di [(1000000,.box b.box),(3,.box [.p (.int .i64 d.word),.p (.int .i64 d.line),.p (.sl (Cw d.names)),.p (.sl (BY d.B7))]),(1000004,.mp (Kr b.mb))] mixed (p:=[(0,0),(1,0),(2,0),(3,0),(4,0),(5,0),(6,0),(7,0),(8,0),(9,0),(10,0),(11,0),(12,0),(13,0)]) (by kernel_rfl) (by simp[C3,get,CD.box]) ?_;unfold CD.box;simp only[go_sem,B3,e1,e4,e5,KK.fit,DI,DW,EI,c1,c2,Bg];refine ⟨by omega,?_⟩;refine Di [(1000000,.box b.box),(3,.box [.p (.int .i64 d.word),.p (.int .i64 d.line),.p (.sl (Cw d.names)),.p (.sl (BY d.B7))]),(1000004,.mp (Kr b.mb))] mixed (p:=[(0,0),(1,0),(2,0),(3,0),(4,0),(5,0),(6,0),(7,0),(8,0),(9,0),(10,0),(11,0),(12,0),(13,0)]) (by kernel_rfl) (by simp[C3,get,CD.box]) ?_;unfold CD.box;simp only[go_sem,B3,e1,e4,e5,KK.fit,DI,DW,EI,c1,c2,Bg];refine ⟨by omega,by omega,?_⟩;refine Cq (Il b k _) ?_;simp only[go_sem,CD.FR b k,c];have hv:b.EC d=(9,b):=by unfold CD.EC;simp only[c,c1];try simp
     rw[hv];exact ⟨k,rfl,rfl⟩
 | some i=>
   cases c2:Eg b.mb (d.names.getD 2 []) with
   | none=>
     refine Di [(1000000,.box b.box),(3,.box [.p (.int .i64 d.word),.p (.int .i64 d.line),.p (.sl (Cw d.names)),.p (.sl (BY d.B7))]),(1000004,.mp (Kr b.mb))] mixed (p:=[(0,0),(1,0),(2,0),(3,0),(4,0),(5,0),(6,0),(7,0),(8,0),(9,0),(10,0),(11,0),(12,0),(13,0)]) (by kernel_rfl) (by simp[C3,get,CD.box]) ?_;unfold CD.box;simp only[go_sem,B3,e1,e4,e5,KK.fit,DI,DW,EI,c1,c2,Bg];refine ⟨by omega,?_⟩;refine Di [(1000000,.box b.box),(3,.box [.p (.int .i64 d.word),.p (.int .i64 d.line),.p (.sl (Cw d.names)),.p (.sl (BY d.B7))]),(1000004,.mp (Kr b.mb))] mixed (p:=[(0,0),(1,0),(2,0),(3,0),(4,0),(5,0),(6,0),(7,0),(8,0),(9,0),(10,0),(11,0),(12,0),(13,0)]) (by kernel_rfl) (by simp[C3,get,CD.box]) ?_;unfold CD.box;simp only[go_sem,B3,e1,e4,e5,KK.fit,DI,DW,EI,c1,c2,Bg];refine ⟨by omega,by omega,?_⟩;refine Cq (Il b k _) ?_;simp only[go_sem,CD.FR b k,c];have hv:b.EC d=(9,b):=by unfold CD.EC;simp only[c,c1,c2];try simp
     rw[hv];exact ⟨k,rfl,rfl⟩
   | some j=>
     cases c3:decide (d.B7.getD 0 0<1);rotate_left
     . skip
       refine Di [(1000000,.box b.box),(3,.box [.p (.int .i64 d.word),.p (.int .i64 d.line),.p (.sl (Cw d.names)),.p (.sl (BY d.B7))]),(1000004,.mp (Kr b.mb))] mixed (p:=[(0,0),(1,0),(2,0),(3,0),(4,0),(5,0),(6,0),(7,0),(8,0),(9,0),(10,0),(11,0),(12,0),(13,0)]) (by kernel_rfl) (by simp[C3,get,CD.box]) ?_;unfold CD.box;simp only[go_sem,B3,e1,e4,e5,KK.fit,DI,DW,EI,c1,c2];refine ⟨by omega,?_⟩;refine Di [(1000000,.box b.box),(3,.box [.p (.int .i64 d.word),.p (.int .i64 d.line),.p (.sl (Cw d.names)),.p (.sl (BY d.B7))]),(1000004,.mp (Kr b.mb))] mixed (p:=[(0,0),(1,0),(2,0),(3,0),(4,0),(5,0),(6,0),(7,0),(8,0),(9,0),(10,0),(11,0),(12,0),(13,0)]) (by kernel_rfl) (by simp[C3,get,CD.box]) ?_;unfold CD.box;simp only[go_sem,B3,e1,e4,e5,KK.fit,DI,DW,EI,c1,c2];refine ⟨by omega,by omega,?_⟩;refine Cq (Il b k _) ?_;simp only[go_sem,CD.FR b k,c,BW,e2,c3];refine ⟨by omega,?_⟩;have hv:b.EC d=(12,b):=by unfold CD.EC;simp only[c,c1,c2,c3];try simp
       rw[hv];exact ⟨k,rfl,rfl⟩
     cases c4:decide (4<d.B7.getD 0 0);rotate_left
     . skip
       refine Di [(1000000,.box b.box),(3,.box [.p (.int .i64 d.word),.p (.int .i64 d.line),.p (.sl (Cw d.names)),.p (.sl (BY d.B7))]),(1000004,.mp (Kr b.mb))] mixed (p:=[(0,0),(1,0),(2,0),(3,0),(4,0),(5,0),(6,0),(7,0),(8,0),(9,0),(10,0),(11,0),(12,0),(13,0)]) (by kernel_rfl) (by simp[C3,get,CD.box]) ?_;unfold CD.box;simp only[go_sem,B3,e1,e4,e5,KK.fit,DI,DW,EI,c1,c2];refine ⟨by omega,?_⟩;refine Di [(1000000,.box b.box),(3,.box [.p (.int .i64 d.word),.p (.int .i64 d.line),.p (.sl (Cw d.names)),.p (.sl (BY d.B7))]),(1000004,.mp (Kr b.mb))] mixed (p:=[(0,0),(1,0),(2,0),(3,0),(4,0),(5,0),(6,0),(7,0),(8,0),(9,0),(10,0),(11,0),(12,0),(13,0)]) (by kernel_rfl) (by simp[C3,get,CD.box]) ?_;unfold CD.box;simp only[go_sem,B3,e1,e4,e5,KK.fit,DI,DW,EI,c1,c2];refine ⟨by omega,by omega,?_⟩;refine Cq (Il b k _) ?_;simp only[go_sem,CD.FR b k,c,BW,e2,c3,c4];refine ⟨by omega,by omega,?_⟩;have hv:b.EC d=(12,b):=by unfold CD.EC;simp only[c,c1,c2,c3,c4];try simp
       rw[hv];exact ⟨k,rfl,rfl⟩
     have c3':¬d.B7.getD 0 0<1:=Ae c3;have r9:¬4<d.B7.getD 0 0:=Ae c4;cases c5:decide ((b.sp.length:Int)=6);rotate_left
     . skip
       refine Di [(1000000,.box b.box),(3,.box [.p (.int .i64 d.word),.p (.int .i64 d.line),.p (.sl (Cw d.names)),.p (.sl (BY d.B7))]),(1000004,.mp (Kr b.mb))] mixed (p:=[(0,0),(1,0),(2,0),(3,0),(4,0),(5,0),(6,0),(7,0),(8,0),(9,0),(10,0),(11,0),(12,0),(13,0)]) (by kernel_rfl) (by simp[C3,get,CD.box]) ?_;unfold CD.box;simp only[go_sem,B3,e1,e4,e5,KK.fit,DI,DW,EI,c1,c2];refine ⟨by omega,?_⟩;refine Di [(1000000,.box b.box),(3,.box [.p (.int .i64 d.word),.p (.int .i64 d.line),.p (.sl (Cw d.names)),.p (.sl (BY d.B7))]),(1000004,.mp (Kr b.mb))] mixed (p:=[(0,0),(1,0),(2,0),(3,0),(4,0),(5,0),(6,0),(7,0),(8,0),(9,0),(10,0),(11,0),(12,0),(13,0)]) (by kernel_rfl) (by simp[C3,get,CD.box]) ?_;unfold CD.box;simp only[go_sem,B3,e1,e4,e5,KK.fit,DI,DW,EI,c1,c2];refine ⟨by omega,by omega,?_⟩;refine Cq (Il b k _) ?_;simp only[go_sem,CD.FR b k,c,BW,e2,c3,c4,c5,Cd];refine ⟨by omega,by omega,?_⟩;have c5':b.sp.length=6:=by have:=Ad c5;omega
       have hv:b.EC d=(14,b):=by unfold CD.EC;simp only[c,c1,c2,c3,c4,c5'];try simp
       rw[hv];exact ⟨k,rfl,rfl⟩
     have c5':¬b.sp.length=6:=by have:=Ae c5;omega
     refine Di [(1000000,.box b.box),(3,.box [.p (.int .i64 d.word),.p (.int .i64 d.line),.p (.sl (Cw d.names)),.p (.sl (BY d.B7))]),(1000004,.mp (Kr b.mb))] mixed (p:=[(0,0),(1,0),(2,0),(3,0),(4,0),(5,0),(6,0),(7,0),(8,0),(9,0),(10,0),(11,0),(12,0),(13,0)]) (by kernel_rfl) (by simp[C3,get,CD.box]) ?_;unfold CD.box;simp only[go_sem,B3,e1,e4,e5,KK.fit,DI,DW,EI,c1,c2];refine ⟨by omega,?_⟩;refine Di [(1000000,.box b.box),(3,.box [.p (.int .i64 d.word),.p (.int .i64 d.line),.p (.sl (Cw d.names)),.p (.sl (BY d.B7))]),(1000004,.mp (Kr b.mb))] mixed (p:=[(0,0),(1,0),(2,0),(3,0),(4,0),(5,0),(6,0),(7,0),(8,0),(9,0),(10,0),(11,0),(12,0),(13,0)]) (by kernel_rfl) (by simp[C3,get,CD.box]) ?_;unfold CD.box;simp only[go_sem,B3,e1,e4,e5,KK.fit,DI,DW,EI,c1,c2];refine ⟨by omega,by omega,?_⟩;refine Cq (Il b k _) ?_;simp only[go_sem,CD.FR b k,c,BW,e2,c3,c4,c5,Cd];refine ⟨by omega,by omega,?_⟩;refine Di [(1000000,.box b.box),(3,.box [.p (.int .i64 d.word),.p (.int .i64 d.line),.p (.sl (Cw d.names)),.p (.sl (BY d.B7))]),(1000003,.arr 68 6 (CQ b.sp))] mixed (p:=[(0,0),(1,0),(2,0),(3,0),(4,0),(5,0),(6,0),(7,0),(8,0),(9,0),(10,0),(11,0),(12,0),(13,0),(14,3)]) (by kernel_rfl) (by simp[C3,get,CD.box]) ?_;unfold CD.box;simp only[go_sem,B3,e1,Cd,KK.fit,DI,TB,Pd.flat];refine ⟨by omega,?_⟩;refine Di [(1000000,.box b.box),(3,.box [.p (.int .i64 d.word),.p (.int .i64 d.line),.p (.sl (Cw d.names)),.p (.sl (BY d.B7))])] mixed (p:=[(0,0),(1,0),(2,0),(3,0),(4,0),(5,0),(6,0),(7,0),(8,0),(9,0),(10,0),(11,0),(12,0),(13,0),(14,0),(15,0),(16,0),(17,0),(18,0),(19,0),(20,1),(21,2),(22,0),(23,0),(24,0),(25,3)]) (by kernel_rfl) (by simp[C3,get,CD.box]) ?_;unfold CD.box;simp only[go_sem,B3,e1,BW,e2,Cd,Aq];refine ⟨by omega,by omega,⟨Dq _ _ rfl,by omega,by omega⟩,?_⟩;refine Di [(1000000,.box (CD.box {b with sp:=b.sp++[⟨d.names.getD 0 [],decide (d.word=4),i,j,d.B7.getD 0 0,0⟩]}))] mixed (p:=[(0,0),(1,0),(2,0),(3,0),(4,0),(5,0),(6,0),(7,0),(8,0),(9,1),(10,2),(11,0),(12,0),(13,3)]) (by kernel_rfl) (by simp[C3,get,CD.box,Cd]) ?_;unfold CD.box;simp only[go_sem,BW,Aq];refine ⟨⟨Dq _ _ rfl,by omega,by omega⟩,?_⟩;have hw:IntKind.i64.wrap (b.sl+d.B7.getD 0 0)=b.sl+d.B7.getD 0 0:=by rw[B2]<;>omega
     refine Di [(1000000,.box (CD.box {b with sp:=b.sp++[⟨d.names.getD 0 [],decide (d.word=4),i,j,d.B7.getD 0 0,0⟩],ba:=b.ba++[b.sl]})),(3,.box [.p (.int .i64 d.word),.p (.int .i64 d.line),.p (.sl (Cw d.names)),.p (.sl (BY d.B7))])] mixed (p:=[(0,0),(1,0),(2,0),(3,0),(4,0),(5,0),(6,0),(7,0),(8,0),(9,0),(10,0),(11,3)]) (by kernel_rfl) (by simp[C3,get,CD.box,Cd,BW]) ?_;unfold CD.box;simp only[go_sem,BW,e2,hw,Aq];refine ⟨by omega,?_⟩;have hv:b.EC d=(0,{b with ms:=Iz b.ms (d.names.getD 0 []) b.sp.length,sp:=b.sp++[⟨d.names.getD 0 [],decide (d.word=4),i,j,d.B7.getD 0 0,0⟩],ba:=b.ba++[b.sl],sl:=b.sl+d.B7.getD 0 0}):=by
       unfold CD.EC;simp only[c,c1,c2,c3,c4,if_neg c5',AL,Bd]
     rw[hv];refine ⟨k,?_,rfl⟩;simp only[CD.FR,NN,DN,Aq,Al,Ax,Bi]
def inV(n lo hi:Int):Bool:=decide (lo<=n)&&decide (n<=hi)
theorem No(n lo hi:Int):B1 prog 40 [.p (.int .i64 n),.p (.int .i64 lo),.p (.int .i64 hi)] [] λ h r=>h=[]/\r= .p (.bool (inV n lo hi)):=by
 refine B0 func40 rfl ZP (by simp[Tryz.f40]) ?_;cases c:decide (lo<=n)
 . simp only[go_sem,c];try simp[inV,c]
 . simp only[go_sem,c];try simp[inV,c]
def XX(q a d p:Int):Bool:=inV q 1 8&&(inV a 0 4&&(inV d 0 3&&inV p 1 16))
theorem S0(q a d p:Int):B1 prog 41 [.agg [.p (.int .i64 q),.p (.int .i64 a),.p (.int .i64 d),.p (.int .i64 p)]] [] λ h r=>h=[]/\r= .p (.bool (XX q a d p)):=by
 refine B0 func41 rfl ZO (by simp[Tryz.f41]) ?_;simp only[go_sem];refine Cq ((No q 1 8)) ?_;cases c1:inV q 1 8
 . simp only[go_sem,c1];try simp[XX,c1]
 simp only[go_sem,c1];refine Cq ((No a 0 4)) ?_;cases c2:inV a 0 4
 . simp only[go_sem,c2];try simp[XX,c1,c2]
 simp only[go_sem,c2];refine Cq ((No d 0 3)) ?_;cases c3:inV d 0 3
 . simp only[go_sem,c3];try simp[XX,c1,c2,c3]
 simp only[go_sem,c3];refine Cq ((No p 1 16)) ?_;simp only[go_sem];try simp[XX,c1,c2,c3]
def CD.DU(b:CD)(d:Dc):Int×CD:=
 if b.cf=true then (11,b) else if XX (d.B7.getD 0 0) (d.B7.getD 1 0) (d.B7.getD 2 0) (d.B7.getD 3 0)=false then (19,b) else
   (0,{b with cq:=d.B7.getD 0 0,ca:=d.B7.getD 1 0,cd:=d.B7.getD 2 0,cp:=d.B7.getD 3 0,cf:=true})
theorem Ahp(b:CD)(k:Nat)(d:Dc)(h2:4<=d.B7.length):
   B1 prog 112 [.ptr 1000000 0,d.d] (b.h k) λ h r=>∃k',h=(b.DU d).2.h k'/\r= .p (.int .i64 (b.DU d).1):=by
 have e0:=Ch d.B7 0 (by omega);have e1:=Ch d.B7 1 (by omega);have e2:=Ch d.B7 2 (by omega);have e3:=Ch d.B7 3 (by omega);refine B0 func112 rfl Agt (by simp[Tryz.f112]) ?_;rw[CD.FR b k];unfold Dc.d;simp only[go_sem];refine Di [(3,.box [.p (.int .i64 d.word),.p (.int .i64 d.line),.p (.sl (Cw d.names)),.p (.sl (BY d.B7))])] mixed (p:=[(0,0),(1,0),(2,0),(3,0),(4,0),(5,0),(6,0),(7,0),(8,0),(9,0),(10,0),(11,0),(12,0),(13,0),(14,0),(15,0),(16,0),(17,1),(18,3)]) (by kernel_rfl) (by simp[C3,get]) ?_;cases c:b.cf;rotate_left
 . simp only[go_sem,BW,e0,e1,e2,e3,c];refine ⟨by omega,by omega,by omega,by omega,?_⟩;have hv:b.DU d=(11,b):=by unfold CD.DU;rw[if_pos c]
   rw[hv];refine ⟨k,?_,rfl⟩;rw[CD.FR,c]
 simp only[go_sem,BW,e0,e1,e2,e3,c];refine ⟨by omega,by omega,by omega,by omega,?_⟩;refine Cq ((S0 (d.B7.getD 0 0) (d.B7.getD 1 0) (d.B7.getD 2 0) (d.B7.getD 3 0))) ?_;cases c2:XX (d.B7.getD 0 0) (d.B7.getD 1 0) (d.B7.getD 2 0) (d.B7.getD 3 0)
 . simp only[go_sem,c2];have hv:b.DU d=(19,b):=by unfold CD.DU;rw[c,if_neg AJ,if_pos c2]
   rw[hv];refine ⟨k,?_,rfl⟩;rw[CD.FR,c]
 simp only[go_sem,c2];have hv:b.DU d=(0,{b with cq:=d.B7.getD 0 0,ca:=d.B7.getD 1 0,cd:=d.B7.getD 2 0,cp:=d.B7.getD 3 0,cf:=true}):=by unfold CD.DU;rw[c,if_neg AJ,c2,if_neg (by simp)]
 rw[hv];exact ⟨k,rfl,rfl⟩
def Af4(l:List (Int×Int))(x:Int×Int):Int:=if x∈l then ((l.idxOf x:Nat):Int) else -1
theorem Wa{x:Int×Int}:∀(l:List (Int×Int)) (i:Nat),i<l.length->l.getD i (0,0)=x->x∉l.take i->l.idxOf x=i
 | [],i,h,_,_=>by simp at h
 | y::r,0,_,h,_=>by simp at h;subst h;simp
 | y::r,i+1,h,h1,h2=>by
   simp only[List.take_succ_cons,AG,not_or] at h2;have:=Wa r i (by simpa using h) (by simpa [List.getD] using h1) h2.2;rw[List.idxOf_cons,this];have:(y==x)=false:=by simpa using λ e:y=x=>h2.1 e.symm
   rw[this];rfl
theorem Aqr{l:List (Int×Int)}{x:Int×Int}{i:Nat}(hi:i<l.length)(hx:l.getD i (0,0)=x)(hn:x∉l.take i):Af4 l x=(i:Int):=by
 have h1:x∈l:=by rw[<-hx];exact CB l i (0,0) hi
 unfold Af4;rw[if_pos h1,Wa l i hi hx hn]
theorem Zk(l:List (Int×Int))(x:Int×Int):decide (0<=Af4 l x)=decide (x∈l):=by
 unfold Af4;by_cases h:x∈l
 . rw[if_pos h];simp[h]
 . rw[if_neg h];simp[h]
theorem Anr(l:List (Int×Int))(i:Nat)(h:i<l.length):(IG l).getD i []=[.int .i64 (l.getD i (0,0)).1,.int .i64 (l.getD i (0,0)).2]:=by simp[IG,List.getD,h]
theorem Aav(l:List (Int×Int))(x:Int×Int)(hl:l.length<=10000000):
   B1 prog 172 [.ref 1000000 0 l.length l.length,.agg [.p (.int .i64 x.1),.p (.int .i64 x.2)]] [(1000000,.arr 120 2 (IG l))] λ h r=>h=[(1000000,.arr 120 2 (IG l))]/\r= .p (.int .i64 (Af4 l x)):=by
 refine B0 func172 rfl Afu (by simp[Tryz.f172]) ?_;simp only[go_sem,EJ];refine B4 (λ i=>⟨[(0,.ref 1000000 0 l.length l.length),(3,.ptr 3 0),(4,.p (.int .i64 0)),(7,.p (.int .i64 l.length)),(8,.p (.int .i64 (i:Nat)))],[(3,.box [.p (.int .i64 x.1),.p (.int .i64 x.2)]),(1000000,.arr 120 2 (IG l))],19⟩) (λ i=>i<=l.length/\x∉l.take i) (λ i=>l.length - i) 0 ⟨AD _,by simp⟩ (Wk.forget (by simp[ZF,IG])) ?_;rintro i n ⟨hi,he⟩ ih;simp only[go_sem,EJ];refine Cv (λ h2=>?_) (λ h2=>?_)
 . have Cr:i<l.length:=by simp at h2;omega
   have hw:=Ca i (by omega);have hg:=Anr l i Cr;have C0:(0:Int)<=(i:Int)/\(i:Int)<(l.length:Int):=by omega
   have Ji:=λ h=>Aqr (x:=x) Cr h he;have hx:l[i]?=some (l.getD i (0,0)):=by simp[List.getD,Cr]
   generalize l.getD i (0,0)=y at*;simp only[go_sem,EJ,Ab,hg,C0];refine Di [(3,.box [.p (.int .i64 x.1),.p (.int .i64 x.2)]),(1000000,.arr 120 2 (IG l))] mixed (p:=[(0,0),(1,0),(2,0),(3,0),(4,0),(5,0)]) (by kernel_rfl) (by simp[C3,get]) ?_;cases h1:decide (x.1=y.1)
   . simp only[go_sem,EJ,Ab,hg,C0,h1,hw];have Dl:¬x=y:=λ e=>(Ae h1) (by rw[e]);refine ih (i+1) _ ⟨Cr,by rw[BP,hx];simp[he,Dl]⟩ (by omega) ?_
     (refine Wk.forget ?_;simp[ZF,IG];done)
   cases h2:decide (x.2=y.2)
   . simp only[go_sem,EJ,Ab,hg,C0,h1,h2,hw];have Dl:¬x=y:=λ e=>(Ae h2) (by rw[e]);refine ih (i+1) _ ⟨Cr,by rw[BP,hx];simp[he,Dl]⟩ (by omega) ?_
     (refine Wk.forget ?_;simp[ZF,IG];done)
   . simp only[go_sem,EJ,Ab,hg,C0,h1,h2,hw];rw[Ji (Prod.ext (Ad h1).symm (Ad h2).symm)]
 . simp only[go_sem];have:i=l.length:=by simp at h2;omega
   subst this;rw[Ar] at he;simp[Af4,he]
theorem Vx(l:List (Int×Int))(x:Int×Int)(hl:l.length<=10000000):
   B1 prog 143 [.ref 1000000 0 l.length l.length,.agg [.p (.int .i64 x.1),.p (.int .i64 x.2)]] [(1000000,.arr 120 2 (IG l))] λ h r=>h=[(1000000,.arr 120 2 (IG l))]/\r= .p (.bool (decide (x∈l))):=by
 refine B0 func143 rfl Ag6 (by simp[Tryz.f143]) ?_;simp only[go_sem,EJ];refine Pc rfl rfl ?_;simp only[go_sem,JL];refine UO (Aav l x hl) ?_;rintro h' r ⟨rfl,rfl⟩;simp only[go_sem,Zk]
def CD.DF(b:CD)(d:Dc):Int×CD:=
 match Eg b.ms (d.names.getD 0 []) with
 | none=>(9,b)
 | some i=>if (b.sp.getD i.toNat Co).Cz=false then (9,b) else if decide (d.B7.getD 0 0<1)=true then (12,b) else if decide ((b.sp.getD i.toNat Co).Cs<d.B7.getD 0 0)=true then (12,b) else
     if (i,d.B7.getD 0 0)∈b.pl then (13,b) else if b.pl.length=8 then (14,b) else (0,{b with pl:=b.pl++[(i,d.B7.getD 0 0)]})
theorem Ajh(b:CD)(k:Nat)(d:Dc)(h1:1<=d.names.length)(h2:1<=d.B7.length)(hb:b.pl.length<=8)(hm:∀x i,Eg b.ms x=some i->∃n:Nat,i=(n:Int)/\n<b.sp.length):
   B1 prog 111 [.ptr 1000000 0,d.d] (b.h k) λ h r=>∃k',h=(b.DF d).2.h k'/\r= .p (.int .i64 (b.DF d).1):=by
 have e1:=Dz d.names 0 (by omega);have e2:=Ch d.B7 0 (by omega);refine B0 func111 rfl Agu (by simp[Tryz.f111]) ?_;rw[CD.FR b k];unfold Dc.d;simp only[go_sem];refine Di [(1000000,.box b.box),(3,.box [.p (.int .i64 d.word),.p (.int .i64 d.line),.p (.sl (Cw d.names)),.p (.sl (BY d.B7))]),(1000005,.mp (Kr b.ms))] mixed (p:=[(0,0),(1,0),(2,0),(3,0),(4,0),(5,0),(6,0),(7,0),(8,0),(9,0),(10,0),(11,0),(12,0),(13,0)]) (by kernel_rfl) (by simp[C3,get,CD.box]) ?_;unfold CD.box;cases c1:Eg b.ms (d.names.getD 0 []) with
 | none=>
   simp only[go_sem,B3,e1,KK.fit,DI,DW,EI,c1,Bg,BW,e2];refine ⟨by omega,by omega,?_⟩;have hv:b.DF d=(9,b):=by unfold CD.DF;rw[c1]
   rw[hv];exact ⟨k,rfl,rfl⟩
 | some i=>
   obtain ⟨n,rfl,hn⟩:=hm _ i c1;have hn0:(0:Int)<=(n:Int)/\(n:Int)<(b.sp.length:Int):=by omega
   have hg:=Eo b.sp n hn;cases c2:(b.sp.getD n Co).Cz
   . simp only[go_sem,B3,e1,KK.fit,DI,DW,EI,c1,BW,e2,Cd,hn0,Ab,hg,c2];refine ⟨by omega,by omega,?_⟩;have hv:b.DF d=(9,b):=by unfold CD.DF;rw[c1];simp only[Ab,c2,AP]
     rw[hv];exact ⟨k,rfl,rfl⟩
   cases c3:decide (d.B7.getD 0 0<1);rotate_left
   . simp only[go_sem,B3,e1,KK.fit,DI,DW,EI,c1,BW,e2,Cd,hn0,Ab,hg,c2,c3];refine ⟨by omega,by omega,?_⟩;have hv:b.DF d=(12,b):=by unfold CD.DF;rw[c1];simp only[Ab,c2,c3,BJ,Bd,AP]
     rw[hv];exact ⟨k,rfl,rfl⟩
   cases c4:decide ((b.sp.getD n Co).Cs<d.B7.getD 0 0);rotate_left
   . simp only[go_sem,B3,e1,KK.fit,DI,DW,EI,c1,BW,e2,Cd,hn0,Ab,hg,c2,c3,c4];refine ⟨by omega,by omega,?_⟩;have hv:b.DF d=(12,b):=by unfold CD.DF;rw[c1];simp only[Ab,c2,c3,c4,BJ,AL,Bd,AP]
     rw[hv];exact ⟨k,rfl,rfl⟩
   simp only[go_sem,B3,e1,KK.fit,DI,DW,EI,c1,BW,e2,Cd,hn0,Ab,hg,c2,c3,c4,EJ];refine ⟨by omega,by omega,?_⟩;refine Pc rfl rfl ?_;simp only[go_sem,JL];refine UO (Vx b.pl ((n:Int),d.B7.getD 0 0) (by omega)) ?_;rintro h' r ⟨rfl,rfl⟩;cases c5:decide (((n:Int),d.B7.getD 0 0)∈b.pl);rotate_left
   . simp only[go_sem,c5];have hv:b.DF d=(13,b):=by unfold CD.DF;rw[c1];simp only[Ab,c2,c3,c4,BJ,AL,Bd,AP,if_pos (Ad c5)]
     rw[hv];exact ⟨k,rfl,rfl⟩
   have c5':=Ae c5;cases c6:decide ((b.pl.length:Int)=8);rotate_left
   . simp only[go_sem,c5,c6,EJ];have c6':b.pl.length=8:=by have:=Ad c6;omega
     have hv:b.DF d=(14,b):=by unfold CD.DF;rw[c1];simp only[Ab,c2,c3,c4,BJ,AL,Bd,AP,if_neg c5',if_pos c6']
     rw[hv];exact ⟨k,rfl,rfl⟩
   have c6':¬b.pl.length=8:=by have:=Ae c6;omega
   simp only[go_sem,c5,c6,EJ];refine ⟨⟨Dq _ _ rfl,by omega,by omega⟩,?_⟩;have hv:b.DF d=(0,{b with pl:=b.pl++[((n:Int),d.B7.getD 0 0)]}):=by unfold CD.DF;rw[c1];simp only[Ab,c2,c3,c4,BJ,AL,Bd,if_neg c5',if_neg c6']
   rw[hv];refine ⟨k,?_,rfl⟩;simp only[CD.FR,Aha,EJ,Aq,Al,Ax,Bi]
def Fk{α:Type}(p:α->Bool):Nat->List α->Int
 | _,[]=>-1
 | k,x::r=>if p x then (k:Int) else Fk p (k+1) r
theorem HZ{α:Type}(p:α->Bool)(l:List α):∀(i:Nat),i<=l.length->(∀j x,j<i->l[j]?=some x->p x=false)->Fk p 0 l=Fk p i (l.drop i):=by
 intro i
 induction i with
 | zero=>intro _ _;rfl
 | succ i ih=>
   intro h1 h2;rw[ih (by omega) (λ j x hj hx=>h2 j x (by omega) hx),AW (by omega)];have:=h2 i l[i] (by omega) (Az (by omega));simp[Fk,this]
theorem Aey(l:List (List UInt8))(hl:l.length<=140737488355328)(g:FuncId)(p:List UInt8->Bool)(hp:∀x,B1 prog g [.p (.str x)] [] λ h r=>h=[]/\r= .p (.bool (p x))):
   B1 prog 157 [.p (.sl (Cw l)),.fn g []] [] λ h r=>h=[]/\r= .p (.int .i64 (Fk p 0 l)):=by
 refine B0 func157 rfl Ag0 (by simp[Tryz.f157]) ?_;simp only[go_sem,B3];refine B4 (λ i=>⟨[(0,.p (.sl (Cw l))),(1,.fn g []),(7,.p (.int .i64 (l.length:Nat))),(8,.p (.int .i64 (i:Nat)))],[],19⟩) (λ i=>i<=l.length/\∀j x,j<i->l[j]?=some x->p x=false) (λ i=>l.length - i) 0 ⟨AD _,by simp⟩
   (Wk.forget (by simp[Le,QF,C3,get,DH,Ek,EV,D.ids,Du])) ?_
 rintro i n ⟨hi,he⟩ ih;simp only[go_sem];refine Cv (λ h2=>?_) (λ h2=>?_)
 . have Cr:i<l.length:=by simp at h2;omega
   simp only[go_sem,B3,Ab,Dz l i Cr];have hw:=Ca i (by omega);have hx:l[i]?=some (l.getD i []):=by simp[List.getD,Cr]
   have P4:l.drop i=l.getD i []::l.drop (i+1):=by rw[AW Cr];simp[List.getD,Cr]
   refine ⟨by omega,Ec (hp _) ?_⟩;rintro h' r ⟨rfl,rfl⟩;simp only[go_sem];cases hpx:p (l.getD i [])
   . simp only[go_sem,hw];refine ih (i+1) _ ⟨by omega,λ j x hj hjx=>?_⟩ (by omega) (Wk.forget (by simp[Le,QF,C3,get,DH,Ek,EV,D.ids,Du]));rcases AF.1 hj with hj | rfl
     . exact he j x hj hjx
     . rw[hx] at hjx;cases hjx;exact hpx
   . simp only[go_sem];rw[HZ p l i hi he,P4];simp only[Fk,hpx,AP,and_self]
 . simp only[go_sem];have:i=l.length:=by simp at h2;omega
   rw[HZ p l i hi he,this,A2];simp[Fk]
theorem Aez(l:List Int)(hl:l.length<=140737488355328)(g:FuncId)(p:Int->Bool)(hp:∀x,B1 prog g [.p (.int .i64 x)] [] λ h r=>h=[]/\r= .p (.bool (p x))):
   B1 prog 158 [.p (.sl (BY l)),.fn g []] [] λ h r=>h=[]/\r= .p (.int .i64 (Fk p 0 l)):=by
 refine B0 func158 rfl Afz (by simp[Tryz.f158]) ?_;simp only[go_sem,BW];refine B4 (λ i=>⟨[(0,.p (.sl (BY l))),(1,.fn g []),(7,.p (.int .i64 (l.length:Nat))),(8,.p (.int .i64 (i:Nat)))],[],19⟩) (λ i=>i<=l.length/\∀j x,j<i->l[j]?=some x->p x=false) (λ i=>l.length - i) 0 ⟨AD _,by simp⟩
   (Wk.forget (by simp[Le,QF,C3,get,DH,Ek,EV,D.ids,Du])) ?_
 rintro i n ⟨hi,he⟩ ih;simp only[go_sem];refine Cv (λ h2=>?_) (λ h2=>?_)
 . have Cr:i<l.length:=by simp at h2;omega
   simp only[go_sem,BW,Ab,Ch l i Cr];have hw:=Ca i (by omega);have hx:l[i]?=some (l.getD i 0):=by simp[List.getD,Cr]
   have P4:l.drop i=l.getD i 0::l.drop (i+1):=by rw[AW Cr];simp[List.getD,Cr]
   refine ⟨by omega,Ec (hp _) ?_⟩;rintro h' r ⟨rfl,rfl⟩;simp only[go_sem];cases hpx:p (l.getD i 0)
   . simp only[go_sem,hw];refine ih (i+1) _ ⟨by omega,λ j x hj hjx=>?_⟩ (by omega) (Wk.forget (by simp[Le,QF,C3,get,DH,Ek,EV,D.ids,Du]));rcases AF.1 hj with hj | rfl
     . exact he j x hj hjx
     . rw[hx] at hjx;cases hjx;exact hpx
   . simp only[go_sem];rw[HZ p l i hi he,P4];simp only[Fk,hpx,AP,and_self]
 . simp only[go_sem];have:i=l.length:=by simp at h2;omega
   rw[HZ p l i hi he,this,A2];simp[Fk]
theorem XU(l:List (List UInt8))(hl:l.length<=140737488355328)(g:FuncId)(p:List UInt8->Bool)(hp:∀x,B1 prog g [.p (.str x)] [] λ h r=>h=[]/\r= .p (.bool (p x))):
   B1 prog 125 [.p (.sl (Cw l)),.fn g []] [] λ h r=>h=[]/\r= .p (.bool (decide (0<=Fk p 0 l))):=by
 refine B0 func125 rfl Agg (by simp[Tryz.f125]) ?_;simp only[go_sem];refine Cq (Aey l hl g p hp) ?_;simp only[go_sem]
theorem XV(l:List Int)(hl:l.length<=140737488355328)(g:FuncId)(p:Int->Bool)(hp:∀x,B1 prog g [.p (.int .i64 x)] [] λ h r=>h=[]/\r= .p (.bool (p x))):
   B1 prog 127 [.p (.sl (BY l)),.fn g []] [] λ h r=>h=[]/\r= .p (.bool (decide (0<=Fk p 0 l))):=by
 refine B0 func127 rfl Age (by simp[Tryz.f127]) ?_;simp only[go_sem];refine Cq (Aez l hl g p hp) ?_;simp only[go_sem]
theorem Adg(x:List UInt8):B1 prog 126 [.p (.str x)] [] λ h r=>h=[]/\r= .p (.bool (!CY x)):=by
 refine B0 func126 rfl Agf (by simp[Tryz.f126]) ?_;simp only[go_sem];refine Cq (PG x) ?_;simp only[go_sem]
theorem Adf(n:Int):B1 prog 128 [.p (.int .i64 n)] [] λ h r=>h=[]/\r= .p (.bool (decide (n< -9999)||decide (9999<n))):=by
 refine B0 func128 rfl Agd (by simp[Tryz.f128]) ?_;by_cases h1:n< -9999<;>by_cases h2:9999<n<;>
 . simp only[go_sem,h1,h2];try simp[h1,h2]
def Cx(w:Int):Int×Int:=if w=1 then (1,2) else if w=2 then (2,0) else if w=3∨w=4 then (3,1) else if w=5 then (1,1) else (0,4)
theorem YK(w:Int):B1 prog 72 [.p (.int .i64 w)] [] λ h r=>h=[]/\r= .Dr [.p (.int .i64 (Cx w).1),.p (.int .i64 (Cx w).2)]:=by
 refine B0 func72 rfl ZK (by simp[Tryz.f72]) ?_;by_cases h1:w=1
 . simp only[go_sem,h1];refine Cm ?_;simp only[go_sem];try simp[Cx,h1]
 by_cases h2:w=2
 . simp only[go_sem,h2];refine Cm ?_;simp only[go_sem];try simp[Cx,h2]
 by_cases h3:w=3
 . simp only[go_sem,h3];refine Cm ?_;simp only[go_sem];try simp[Cx,h3]
 by_cases h4:w=4
 . simp only[go_sem,h4];refine Cm ?_;simp only[go_sem];try simp[Cx,h4]
 by_cases h5:w=5
 . simp only[go_sem,h5];refine Cm ?_;simp only[go_sem];try simp[Cx,h5]
 . simp only[go_sem,h1,h2,h3,h4,h5];refine Cm ?_;simp only[go_sem];try simp[Cx,h1,h2,h3,h4,h5]
structure Fm where
 word:List UInt8
 fields:List UInt8
 more:Bool
def Ir:List Fm:=[⟨[],[],false⟩,⟨[98,108,111,99,107],[78,35,35],false⟩,⟨[108,97,110,101],[78,78],true⟩,⟨[115,116,97,116,105,111,110],[78,78,78,35],false⟩,
 ⟨[100,101,112,111,116],[78,78,78,35],false⟩,⟨[114,111,98,111,116],[78,35],false⟩,⟨[99,111,110,102,105,103],[35,35,35,35],false⟩]
def fmC(f:Fm):List Pd:=[.str f.word,.str f.fields,.bool f.more]
theorem ZC:B1 prog 92 [] [] λ h r=>h=[]/\r= .agg ((Ir.flatMap fmC).map .p):=by
 refine B0 func92 rfl Alx (by simp[Tryz.f92]) ?_;simp only[go_sem];refine Cm ?_;simp only[go_sem];rfl
def Akj(num:Int)(fs:List (List UInt8)):List D:=[.p (.int .i64 num),.p (.sl (Cw fs))]
theorem Aec(f:Fm)(num:Int)(w:List UInt8)(fs:List (List UInt8)):B1 prog 107 [.agg ((fmC f).map .p),.ptr 1000000 0] [(1000000,.box (Akj num (w::fs)))] λ h r=>h=[(1000000,.box (Akj num (w::fs)))]/\r= .p (.bool (decide (f.word=w))):=by
 refine B0 func107 rfl Agy (by simp[Tryz.f107]) ?_;unfold Akj fmC;simp only[go_sem];refine Di [(1000000,.box [.p (.int .i64 num),.p (.sl (Cw (w::fs)))]),(2,.box [.p (.str f.word),.p (.str f.fields),.p (.bool f.more)])] mixed (p:=[(0,0),(1,0),(2,0),(3,0),(4,0),(5,0),(6,0),(7,0)]) (by kernel_rfl) (by simp[C3,get]) ?_;have h0:(Cw (w::fs)).getD 0 []=[.str w]:=rfl;simp only[go_sem,B3,h0];omega
def Ahf(l:List Fm):List (List Pd):=l.map fmC
theorem ZV(l:List Fm):(Ahf l).length=l.length:=by simp[Ahf]
theorem Anw(l:List Fm)(i:Nat)(h:i<l.length):(Ahf l).getD i []=[.str l[i].word,.str l[i].fields,.bool l[i].more]:=by simp[Ahf,List.getD,h,fmC]
theorem Af0(l:List Fm)(hl:l.length<=140737488355328)(g:FuncId)(p:Fm->Bool)(x1 x2:Pd)
   (hp:∀x:Fm,B1 prog g [.agg [.p (.str x.word),.p (.str x.fields),.p (.bool x.more)],.ptr 1000000 0] [(1000000,.box [.p x1,.p x2])] λ h r=>h=[(1000000,.box [.p x1,.p x2])]/\r= .p (.bool (p x))):
   B1 prog 106 [.p (.sl (Ahf l)),.fn g [.ptr 1000000 0]] [(1000000,.box [.p x1,.p x2])] λ h r=>h=[(1000000,.box [.p x1,.p x2])]/\r= .p (.int .i64 (Fk p 0 l)):=by
 refine B0 func106 rfl Agz (by simp[Tryz.f106]) ?_;simp only[go_sem,ZV];refine B4 (λ i=>⟨[(0,.p (.sl (Ahf l))),(1,.fn g [.ptr 1000000 0]),(7,.p (.int .i64 (l.length:Nat))),(8,.p (.int .i64 (i:Nat)))],[(1000000,.box [.p x1,.p x2])],19⟩) (λ i=>i<=l.length/\∀j x,j<i->l[j]?=some x->p x=false) (λ i=>l.length - i) 0 ⟨AD _,by simp⟩
   (Wk.forget (by simp[ZF])) ?_
 rintro i n ⟨hi,he⟩ ih;simp only[go_sem];refine Cv (λ h2=>?_) (λ h2=>?_)
 . have Cr:i<l.length:=by simp at h2;omega
   simp only[go_sem,ZV,Ab,Anw l i Cr];have hw:=Ca i (by omega);have hx:l[i]?=some l[i]:=by simp
   have P4:l.drop i=l[i]::l.drop (i+1):=by rw[AW Cr]
   refine ⟨by omega,Ec (hp l[i]) ?_⟩;rintro h' r ⟨rfl,rfl⟩;simp only[go_sem];cases hpx:p l[i]
   . simp only[go_sem,hw];refine ih (i+1) _ ⟨by omega,λ j x hj hjx=>?_⟩ (by omega) (Wk.forget (by simp[ZF]));rcases AF.1 hj with hj | rfl
     . exact he j x hj hjx
     . rw[hx] at hjx;cases hjx;exact hpx
   . simp only[go_sem];rw[HZ p l i hi he,P4];simp only[Fk,hpx,AP,and_self]
 . simp only[go_sem];have:i=l.length:=by simp at h2;omega
   rw[HZ p l i hi he,this,A2];simp[Fk]
def rd:Nat->List (List UInt8)->Dc->Dc×Int
 | _,[],d=>(d,0)
 | 0,s::r,d=>if (Ka s).2 then rd 0 r {d with B7:=d.B7++[(Ka s).1]} else (II,7)
 | k+1,s::r,d=>if CY s then rd k r {d with names:=d.names++[s]} else (II,6)
def E3(j:Nat):Fm:=Ir.getD j ⟨[],[],false⟩
def Jn(w:List UInt8):Int:=Fk (λ f:Fm=>decide (f.word=w)) 0 Ir.tail+1
def Jy(num:Int)(fs:List (List UInt8)):Dc×Int:=
 match fs with
 | []=>(II,20)
 | w::rest=>
   if Jn w=0 then (II,4)
   else if (rest.length:Int)<(Cx (Jn w)).1+(Cx (Jn w)).2∨((Cx (Jn w)).1+(Cx (Jn w)).2<(rest.length:Int)/\Jn w≠2) then (II,5)
   else rd (rest.length - (Cx (Jn w)).2.toNat) rest ⟨Jn w,num,[],[]⟩
theorem Wt{α:Type}(p:α->Bool):∀(l:List α) (k:Nat),Fk p k l=-1∨∃i:Nat,i<l.length/\Fk p k l=((k+i:Nat):Int)
 | [],k=> .inl rfl
 | x::r,k=>by
   simp only[Fk];split
   . exact .inr ⟨0,by simp,rfl⟩
   . rcases Wt p r (k+1) with h | ⟨i,h1,h2⟩
     . exact .inl h
     . exact .inr ⟨i+1,by simp;omega,by rw[h2];omega⟩
theorem VD(w:List UInt8):∃j:Nat,j<7/\Jn w=(j:Nat):=by
 rcases Wt (λ f:Fm=>decide (f.word=w)) Ir.tail 0 with h | ⟨i,h1,h2⟩
 . exact ⟨0,by omega,by rw[Jn,h];rfl⟩
 . have:Ir.tail.length=6:=rfl;exact ⟨i+1,by omega,by rw[Jn,h2];omega⟩
theorem Uc(j:Nat)(h:j<7):((Ir.flatMap fmC).drop (j*3)).take 3=[.str (E3 j).word,.str (E3 j).fields,.bool (E3 j).more]:=by
 rcases j with _ | _ | _ | _ | _ | _ | _ | j
 all_goals first | rfl | omega
theorem Ub(j:Nat)(h:j<7)(h0:1<=j):((E3 j).fields.length:Int)=(Cx j).1+(Cx j).2/\(∀i:Nat,i<(E3 j).fields.length->((((E3 j).fields.getD i 0).toNat:Int)=35↔(Cx j).1<=(i:Int)))/\(E3 j).more=decide ((j:Int)=2)/\0<=(Cx j).1/\0<=(Cx j).2:=by
 rcases j with _ | _ | _ | _ | _ | _ | _ | j
 . omega
 all_goals first | omega | skip
 all_goals
   refine ⟨by decide,?_,by decide,by decide,by decide⟩;intro i hi;rcases i with _ | _ | _ | _ | i
   all_goals first | decide | (exfalso;simp[E3,Ir] at hi;done) | (exfalso;simp[E3,Ir] at hi;omega)
theorem NM:(Ir.flatMap fmC).length=21:=by decide
theorem Ak1(num:Int)(fs:List (List UInt8))(hfs:fs.length<=10000000):B1 prog 62 [.agg [.p (.int .i64 num),.p (.sl (Cw fs))]] [] λ h r=>h=[]/\r= .Dr [(Jy num fs).1.d,.p (.int .i64 (Jy num fs).2)]:=by
 refine B0 func62 rfl Amk (by simp[Tryz.f62]) ?_;cases fs with
 | nil=>
   simp only[go_sem,B3];refine BX ?_;simp only[go_sem];try simp[Jy,II,Dc.d,Cw,BY]
 | cons w rest=>
   have Dl:¬((rest.length+1:Nat):Int)=0:=by omega
   simp only[go_sem,B3,Dl];refine Cq ZC ?_;simp only[go_sem,NM];refine Az2 (Wk.seal (t:=4) (id:=4) (xs:=Ir.flatMap fmC) (env1:=[(3,.p (.int .i64 0)),(2,.ptr 2 0),(1,.ptr 1 0)]) (hp1:=[(2,.box [.p (.int .i64 0),.p (.int .i64 0),.cl [],.cl []]),(1,.box [.p (.int .i64 num),.p (.sl (Cw (w::rest)))])]) rfl rfl rfl
     (by simp[Le,QF,C3,get,DH,Ek,EV,D.ids,Du,AO.ids,base])) ?_
   simp only[go_sem];refine o6 (L:=1) rfl Ase Asf rfl rfl (by decide) NM (by decide) ?_;simp only[go_sem];refine Cq (Af0 Ir.tail (by decide) 107 (λ f=>decide (f.word=w)) _ _ (λ x=>Aec x num w rest)) ?_;obtain ⟨j,hj,hjw⟩:=VD w;have Xv:IntKind.i64.wrap (Fk (λ f:Fm=>decide (f.word=w)) 0 Ir.tail+1)=(j:Int):=by
     have h1:Fk (λ f:Fm=>decide (f.word=w)) 0 Ir.tail+1=(j:Int):=hjw;rw[h1,B2]<;>omega
   by_cases Vm:(j:Int)=0
   . simp only[go_sem,Xv,Vm];refine BX ?_;simp only[go_sem];simp[Jy,hjw,Vm,II,Dc.d,Cw,BY]
   have hjp:(0:Int)<=j/\(j:Int)<7:=by omega
   have hfc:=Uc j hj;have P3:0+3<=(List.drop (j*3) (Ir.flatMap fmC)).length:=by rw[List.length_drop,NM];omega
   have Ol:List.drop 1 (List.take (rest.length+1) (Cw (w::rest)))=Cw rest:=by
     rw[AE (by simp[Cw])];rfl
   have Af8:JS 1 (Cw (w::rest)):=by simp[JS,Cw]
   have Ar0:(1:Int)<=((rest.length+1:Nat):Int):=by omega
   simp only[go_sem,Xv,Vm];refine Di [(2,.box [.p (.int .i64 0),.p (.int .i64 0),.cl [],.cl []]),(1,.box [.p (.int .i64 num),.p (.sl (Cw (w::rest)))])] mixed (p:=[(0,0),(1,0),(2,0),(3,0),(4,0),(5,0),(6,1),(7,2),(8,0)]) (by kernel_rfl) (by simp[C3,get]) ?_;obtain ⟨Lg,OR,p6,hs4,hs5⟩:=Ub j hj (by omega);have h2b:(j:Int)=2->(Cx j).2=0:=by intro h;rw[h];rfl
   have LG:Jy num (w::rest)=if (rest.length:Int)<(Cx j).1+(Cx j).2∨((Cx j).1+(Cx j).2<(rest.length:Int)/\(j:Int)≠2) then (II,5) else rd (rest.length - (Cx j).2.toNat) rest ⟨j,num,[],[]⟩:=by
     simp only[Jy,hjw,Vm,Bd]
   rw[LG];generalize hfe:(E3 j).fields=sig at*;generalize hfo:(E3 j).more=more at*;generalize hA:(Cx j).1=a at*;generalize hB:(Cx j).2=b at*;by_cases r5:(rest.length:Int)<(sig.length:Int)
   . simp only[go_sem,Ab,hfc,P3,B3,Ol,Af8,hjp,Ar0,Bz,r5];refine BX ?_;simp only[go_sem];rw[if_pos (.inl (by omega))];simp[II,Dc.d,Cw,BY]
   by_cases T0:(sig.length:Int)<(rest.length:Int)/\more=false
   . simp only[go_sem,Ab,hfc,P3,B3,Ol,Af8,hjp,Ar0,Bz,r5,T0];refine BX ?_;simp only[go_sem];rw[if_pos (.inr ⟨by omega,by have:=T0.2;rw[p6] at this;simpa using this⟩)];simp[II,Dc.d,Cw,BY]
   have hl3:(sig.length:Int)<(rest.length:Int)->(j:Int)=2/\more=true:=by
     intro h;cases more
     . exact (T0 ⟨h,rfl⟩).elim
     . exact ⟨by simpa using p6.symm,rfl⟩
   have hgo:(if (rest.length:Int)<a+b∨(a+b<(rest.length:Int)/\(j:Int)≠2) then (II,(5:Int)) else rd (rest.length - b.toNat) rest ⟨j,num,[],[]⟩)=rd (rest.length - b.toNat) rest ⟨j,num,[],[]⟩:=by
     rw[if_neg];omega
   rw[hgo];generalize hK:rest.length - b.toNat=K;by_cases hl5:(sig.length:Int)<(rest.length:Int);all_goals
     first
       | simp only[go_sem,Ab,hfc,P3,B3,Ol,Af8,hjp,Ar0,Bz,r5,hl5,(hl3 hl5).2]
       | simp only[go_sem,Ab,hfc,P3,B3,Ol,Af8,hjp,Ar0,Bz,r5,hl5]
     refine B4 (λ q:Nat×List (List UInt8)×List Int=>⟨[(2,.ptr 2 0),(6,.ptr 6 0),(8,.ptr 8 0),(56,.p (.sl (Cw rest))),(57,.p (.int .i64 (rest.length:Nat))),(58,.p (.int .i64 (q.1:Nat)))],
         [(2,.box [.p (.int .i64 0),.p (.int .i64 0),.cl [],.cl []]),(6,.box [.p (.str (E3 j).word),.p (.str sig),.p (.bool more)]),
          (8,.box [.p (.int .i64 j),.p (.int .i64 num),.ref 97 0 q.2.1.length q.2.1.length,.ref 87 0 q.2.2.length q.2.2.length]),(97,.arr 9 1 (Cw q.2.1)),(87,.arr 3 1 (BY q.2.2))],101⟩)
       (λ q=>q.1<=rest.length/\q.2.1.length<=q.1/\q.2.2.length<=q.1/\rd (K - q.1) (rest.drop q.1) ⟨j,num,q.2.1,q.2.2⟩=rd K rest ⟨j,num,[],[]⟩)
       (λ q=>rest.length - q.1) (0,[],[]) ⟨AD _,by simp,by simp,by simp⟩ ?_ ?_
     . refine (Wk.Fq (id:=8) (j:=2) (q:=97) (sz:=1) 9 rfl rfl rfl (by decide)).trans ((Wk.Fq (id:=8) (j:=3) (q:=87) (sz:=1) 3 rfl rfl rfl (by decide)).trans ?_);first
         | (refine Wk.forget ?_;simp[ZF,Cw,BY];done)
         | (refine Wk.forget ?_;simp[ZF,Cw,BY,(hl3 hl5).2];done)
     rintro ⟨i,ns,ks⟩ n ⟨hi,XA,hn2,he⟩ ih;simp only at hi XA hn2 he;simp only[go_sem];refine Cv (λ h2=>?_) (λ h2=>?_)
     . have Cr:i<rest.length:=by simp at h2;omega
       have hw:=Ca i (by simp at hfs;omega);have T6:rest.drop i=rest.getD i []::rest.drop (i+1):=by rw[AW Cr];simp[List.getD,Cr]
       rw[T6] at he;simp only[Al] at hfs;have I3:(i:Int)<(rest.length:Int):=by omega
       have C0:(0:Int)<=(i:Int):=by omega
       generalize hs:rest.getD i []=s at he;have number:K - i=0->(Ka s).2=true->rd (K - (i+1)) (rest.drop (i+1)) ⟨j,num,ns,ks++[(Ka s).1]⟩=rd K rest ⟨j,num,[],[]⟩:=by
         intro h0 h1;rw[<-he,h0];simp only[rd,h1,AP];congr 1;omega
       have Aq7:K - i=0->(Ka s).2=false->rd K rest ⟨j,num,[],[]⟩=(II,7):=by
         intro h0 h1;rw[<-he,h0];simp only[rd,h1];rfl
       have name:i<K->CY s=true->rd (K - (i+1)) (rest.drop (i+1)) ⟨j,num,ns++[s],ks⟩=rd K rest ⟨j,num,[],[]⟩:=by
         intro h0 h1;rw[<-he,show K - i=(K - (i+1))+1 by omega];simp only[rd,h1,AP]
       have Asl:i<K->CY s=false->rd K rest ⟨j,num,[],[]⟩=(II,6):=by
         intro h0 h1;rw[<-he,show K - i=(K - (i+1))+1 by omega];simp only[rd,h1];rfl
       by_cases hsi:(i:Int)<(sig.length:Int)
       . by_cases L6:((sig.getD i 0).toNat:Int)=35
         . have hK0:K - i=0:=by have:=(OR i (by omega)).1 L6;omega
           simp only[go_sem,Ab,B3,Dz rest i Cr,hs,hsi,L6,I3,C0];refine Cq (Aaa _) ?_;cases SQ:(Ka s).2
           . simp only[go_sem,SQ];refine BX ?_;simp only[go_sem];rw[Aq7 hK0 SQ];simp[II,Dc.d,Cw,BY]
           . simp only[go_sem,SQ,hw,BW];refine ⟨⟨Dq _ _ rfl,by omega⟩,?_⟩;refine ih (i+1,ns,ks++[(Ka s).1]) _ ⟨Cr,by simp only;omega,by simp only[Aq,Al,Ax];omega,number hK0 SQ⟩ (by simp only;omega) ?_
             (refine Wk.forget ?_;simp[ZF,DN,BW];done)
         . have hK0:i<K:=by have:=(OR i (by omega)).2;omega
           simp only[go_sem,Ab,B3,Dz rest i Cr,hs,hsi,L6,I3,C0];refine Cq (PG _) ?_;cases SQ:CY s
           . simp only[go_sem,SQ];refine BX ?_;simp only[go_sem];rw[Asl hK0 SQ];simp[II,Dc.d,Cw,BY]
           . simp only[go_sem,SQ,hw,B3];refine ⟨⟨Dq _ _ rfl,by omega⟩,?_⟩;refine ih (i+1,ns++[s],ks) _ ⟨Cr,by simp only[Aq,Al,Ax];omega,by simp only;omega,name hK0 SQ⟩ (by simp only;omega) ?_
             (refine Wk.forget ?_;simp[ZF,Dx,B3];done)
       . have hK0:i<K:=by
           have hl6:(sig.length:Int)<(rest.length:Int):=by omega
           have:=h2b (hl3 hl6).1;omega
         simp only[go_sem,Ab,B3,Dz rest i Cr,hs,hsi,I3,C0];refine Cq (PG _) ?_;cases SQ:CY s
         . simp only[go_sem,SQ];refine BX ?_;simp only[go_sem];rw[Asl hK0 SQ];simp[II,Dc.d,Cw,BY]
         . simp only[go_sem,SQ,hw,B3];refine ⟨⟨Dq _ _ rfl,by omega⟩,?_⟩;refine ih (i+1,ns++[s],ks) _ ⟨Cr,by simp only[Aq,Al,Ax];omega,by simp only;omega,name hK0 SQ⟩ (by simp only;omega) ?_
           (refine Wk.forget ?_;simp[ZF,Dx,B3];done)
     . simp only[go_sem];have T1:i=rest.length:=by simp at h2;omega
       subst T1;refine BX ?_;simp only[go_sem];rw[A2] at he;simp only[rd] at he;rw[<-he];(try rw[FN _ _ (Ai _)]);(try rw[Gt _ _ (Ai _)]);simp[Dc.d,B3,BW]
def Da(d:Dc):Bool:=
 decide (1<=d.word/\d.word<=6)&&(decide ((d.B7.length:Int)=(Cx d.word).2)&&((decide ((d.names.length:Int)=(Cx d.word).1)||(decide ((Cx d.word).1<(d.names.length:Int))&&decide (d.word=2)))&&
   (d.names.all CY&&d.B7.all λ n=>!(decide (n< -9999)||decide (9999<n)))))
theorem Qe{α:Type}(p:α->Bool):∀(l:List α) (k:Nat),0<=Fk p k l↔l.any p=true
 | [],k=>by simp[Fk]
 | x::r,k=>by
   simp only[Fk,List.any_cons];by_cases h:p x=true
   . rw[if_pos h];simp[h]
   . rw[if_neg h,Qe p r (k+1)];simp[h]
theorem Afp{α:Type}(p:α->Bool)(l:List α)(k:Nat):decide (0<=Fk p k l)=l.any p:=by
 rw[Bn,Au,Qe]
theorem Ab9(j:Nat)(h:j<7):∀b∈(E3 j).fields,b.toNat<128:=by
 rcases j with _ | _ | _ | _ | _ | _ | _ | j
 all_goals first | decide | omega
theorem Aio(d:Dc)(hd:d.names.length<=10000000/\d.B7.length<=10000000):B1 prog 91 [d.d] [] λ h r=>h=[]/\r= .p (.bool (Da d)):=by
 obtain ⟨word,line,names,B7⟩:=d;simp only at hd;refine B0 func91 rfl Aly (by simp[Tryz.f91]) ?_;by_cases h1:word<1
 . have hv:Da ⟨word,line,names,B7⟩=false:=by simp[Da];intro h;omega
   simp only[go_sem,Dc.d,h1,hv]
 by_cases h2:6<word
 . have hv:Da ⟨word,line,names,B7⟩=false:=by simp[Da];intro h;omega
   simp only[go_sem,Dc.d,h1,h2,hv]
 obtain ⟨j,rfl⟩:∃j:Nat,word=(j:Int):=⟨word.toNat,by omega⟩;have hj:j<7:=by omega
 have hfc:=Uc j hj;have P3:j*3+3<=(Ir.flatMap fmC).length:=by rw[NM];omega
 obtain ⟨Lg,OR,p6,hs4,hs5⟩:=Ub j hj (by omega);have Bbu:=Ab9 j hj;have hsl:(E3 j).fields.length<=4:=by
   rcases j with _ | _ | _ | _ | _ | _ | _ | j
   all_goals first | decide | omega
 have Vm:(0:Int)<=(j:Int)/\(j:Int)<7:=by omega
 have hdt:List.take 3 (List.drop (j*3) (List.map D.p (Ir.flatMap fmC)))=[.p (.str (E3 j).word),.p (.str (E3 j).fields),.p (.bool (E3 j).more)]:=by
   rw[<-List.map_drop,<-BN,hfc];rfl
 simp only[go_sem,Dc.d,h1,h2];refine CH mixed (p:=[(1,0),(2,0),(4,1),(0,2),(3,0),(5,2),(6,0),(7,0)]) (by kernel_rfl) (by simp[C3,get]) ?_;simp only[go_sem];refine Gq ZC ?_;have hv:Da ⟨j,line,names,B7⟩=(decide ((B7.length:Int)=(Cx j).2)&&((decide ((names.length:Int)=(Cx j).1)||(decide ((Cx j).1<(names.length:Int))&&decide ((j:Int)=2)))&&
   (names.all CY&&B7.all λ n=>!(decide (n< -9999)||decide (9999<n))))):=by
   have:decide ((1:Int)<=j/\(j:Int)<=6)=true:=by simp;omega
   simp only[Da,this,Ba]
 rw[hv,<-p6];clear hv p6;generalize hfe:(E3 j).fields=sig at*;generalize hfo:(E3 j).more=more at*;generalize hA:(Cx j).1=a at*;generalize hB:(Cx j).2=b at*;simp only[go_sem,Ab,P3,hdt,Vm];refine Apb rfl rfl ti9 rfl rfl ?_;simp only[go_sem];refine B4 (λ i=>⟨[(1,.ptr 1 0),(3,.ptr 3 0),(22,.ptr 22 0),(4,.p (.int .i64 (min i a.toNat:Nat))),(5,.p (.int .i64 (i - a.toNat:Nat)))],
     [(1,.box [.p (.int .i64 j),.p (.int .i64 line),.p (.sl (Cw names)),.p (.sl (BY B7))]),(3,.box [.p (.str (E3 j).word),.p (.str sig),.p (.bool more)]),(22,.iter sig i)],67⟩)
   (λ i=>i<=sig.length) (λ i=>sig.length - i) 0 (AD _) (Wk.forget (by simp[ZF,Nat.zero_min,Nat.zero_sub])) ?_
 rintro i n hi ih;simp only[go_sem];refine As9 rfl rfl rfl Bbu (λ Cr=>?_) (λ hge=>?_)
 . have L6:=OR i Cr;have Iw:sig.getD i 0=sig[i]:=by simp[List.getD,Cr]
   rw[Iw] at L6;simp only[go_sem];by_cases hc:(sig[i].toNat:Int)=35
   . have hai:=L6.1 hc;have hw:IntKind.i64.wrap (((i - a.toNat:Nat):Int)+1)=((i+1 - a.toNat:Nat):Int):=by rw[B2]<;>omega
     simp only[go_sem,hc,hw];refine ih (i+1) _ Cr (by omega) ?_;have e1:min (i+1) a.toNat=min i a.toNat:=by omega
     rw[e1]
     (refine Wk.forget ?_;simp[ZF];done)
   . have hai:¬a<=(i:Int):=λ h=>hc (L6.2 h);have hw:IntKind.i64.wrap (((min i a.toNat:Nat):Int)+1)=((min (i+1) a.toNat:Nat):Int):=by rw[B2]<;>omega
     simp only[go_sem,hc,hw];refine ih (i+1) _ Cr (by omega) ?_;have e1:i+1 - a.toNat=i - a.toNat:=by omega
     rw[e1]
     (refine Wk.forget ?_;simp[ZF];done)
 . have I3:i=sig.length:=by omega
   have e4:((min i a.toNat:Nat):Int)=a:=by omega
   have e5:((i - a.toNat:Nat):Int)=b:=by omega
   simp only[go_sem,BW,B3,e4,e5];clear ih;have k1:=XU names (by omega) 126 (λ x=>!CY x) Adg;have k2:=XV B7 (by omega) 128 (λ n=>decide (n< -9999)||decide (9999<n)) Adf;rw[Afp] at k1 k2;cases c1:decide ((B7.length:Int)=b)
   . simp only[go_sem,c1];try simp
   cases c2:decide ((names.length:Int)=a)
   . cases c3:decide (a<(names.length:Int))
     . simp only[go_sem,c1,BW,B3,e4,e5,c2,c3];try simp
     cases more
     . simp only[go_sem,c1,BW,B3,e4,e5,c2,c3];try simp
     simp only[go_sem,c1,BW,B3,e4,e5,c2,c3];refine Cq k1 ?_;cases c4:names.any λ x=>!CY x
     . have r9:names.all CY=true:=by
         rw[List.all_eq_not_any_not,c4];rfl
       simp only[go_sem,c4];refine Cq k2 ?_;simp only[go_sem];rw[r9,List.all_eq_not_any_not];try simp
     . have r9:names.all CY=false:=by
         rw[List.all_eq_not_any_not,c4];rfl
       simp only[go_sem,c4];rw[r9];try simp
   . simp only[go_sem,c1,BW,B3,e4,e5,c2];refine Cq k1 ?_;cases c4:names.any λ x=>!CY x
     . have r9:names.all CY=true:=by
         rw[List.all_eq_not_any_not,c4];rfl
       simp only[go_sem,c4];refine Cq k2 ?_;simp only[go_sem];rw[r9,List.all_eq_not_any_not];try simp
     . have r9:names.all CY=false:=by
         rw[List.all_eq_not_any_not,c4];rfl
       simp only[go_sem,c4];rw[r9];try simp
def CD.D9:CD->List (List UInt8)->Int×CD
 | b,x::y::r=>if (b.Fj x y).1=0 then CD.D9 (b.Fj x y).2 (y::r) else b.Fj x y
 | b,_=>(0,b)
def CD.Et(b:CD)(d:Dc):Int×CD:=
 if Da d=false then (20,b) else if decide (d.word=1)=true then b.EP d else if decide (d.word=2)=true then b.D9 d.names else
   if decide (d.word=5)=true then b.DF d else if decide (d.word=6)=true then b.DU d else b.EC d
structure BI(b:CD):Prop where
 nb:b.bl.length<=24
 nn:b.nx.length=b.bl.length
 mb:∀x i,Eg b.mb x=some i->∃n:Nat,i=(n:Int)/\n<b.bl.length
 ms:∀x i,Eg b.ms x=some i->∃n:Nat,i=(n:Int)/\n<b.sp.length
 row:∀i,(b.nx.getD i []).length<=4
 ns:b.sp.length<=6
 nba:b.ba.length=b.sp.length
 sl:0<=b.sl/\b.sl<=4*b.sp.length
 np:b.pl.length<=8
 bas:∀x∈b.ba,0<=x/\x<=24
 sps:∀s∈b.sp,1<=s.Cs/\s.Cs<=4
 pls:∀p∈b.pl,(∃n:Nat,p.1=(n:Int)/\n<b.sp.length)/\1<=p.2/\p.2<=4
theorem NL(p:List UInt8×Int)(r:List (List UInt8×Int))(x:List UInt8):Eg (p::r) x=if p.1=x then some p.2 else Eg r x:=by
 unfold Eg;rw[List.find?_cons];by_cases h:p.1=x
 . simp[h]
 . rw[if_neg h,beq_eq_false_iff_ne.2 h]
theorem Ae5(p:List UInt8×Int)(r:List (List UInt8×Int))(k:List UInt8)(v:Int):Iz (p::r) k v=if p.1=k then (k,v)::r else p::Iz r k v:=rfl
theorem NK(m:List (List UInt8×Int))(k:List UInt8)(v:Int)(x:List UInt8):Eg (Iz m k v) x=if x=k then some v else Eg m x:=by
 induction m with
 | nil=>
   have:Iz [] k v=[(k,v)]:=rfl;rw[this,NL];by_cases h:x=k
   . rw[if_pos h,if_pos h.symm]
   . rw[if_neg h,if_neg (Be h)]
 | cons p r ih=>
   rw[Ae5,NL];by_cases h:p.1=k
   . rw[if_pos h,NL];by_cases h2:x=k
     . rw[if_pos h2,if_pos h2.symm]
     . rw[if_neg h2,if_neg (Be h2),if_neg (λ e=>h2 (by rw[<-e,<-h]))]
   . rw[if_neg h,NL,ih];by_cases h2:p.1=x
     . rw[if_pos h2,if_pos h2,if_neg (λ e=>h (by rw[h2,e]))]
     . rw[if_neg h2,if_neg h2]
theorem BI.block{b:CD}(h:BI b)(d:Dc):BI (b.EP d).2:=by
 unfold CD.EP;split
 . exact h
 . split
   . exact h
   . rename_i h1 h2;have hl:b.bl.length<24:=by have:=h.nb;omega
     refine ⟨by simp;omega,by simp[h.nn],λ x i hx=>?_,h.ms,λ i=>?_,h.ns,h.nba,h.sl,h.np,h.bas,h.sps,h.pls⟩
     . simp only[NK] at hx;split at hx
       . cases hx;exact ⟨_,rfl,by simp⟩
       . obtain ⟨n,h3,h4⟩:=h.mb x i hx;exact ⟨n,h3,by simp;omega⟩
     . simp only[List.getD,AN];split
       . have:=h.row i;simpa [List.getD] using this
       . rcases hj:i - b.nx.length with _ | j<;>simp
theorem BI.lane{b:CD}(h:BI b)(x y:List UInt8):BI (b.Fj x y).2:=by
 unfold CD.Fj;split
 . rename_i i j h1 h2;split
   . exact h
   . split
     . exact h
     . split
       . exact h
       . rename_i h3 h4 h5;obtain ⟨n,rfl,hn⟩:=h.mb x i h1;refine ⟨h.nb,by simp[h.nn],h.mb,h.ms,λ k=>?_,h.ns,h.nba,h.sl,h.np,h.bas,h.sps,h.pls⟩;simp only[Ab] at h5 ⊢;have hr:=h.row n;have hrk:=h.row k;simp only[List.getD,BR];split
         . rename_i e;subst e;split
           . simp only[A4,Aq,Al,Ax];simp only[List.getD] at h5 hr;omega
           . simp
         . simpa [List.getD] using hrk
 . exact h
theorem BI.Zb:∀{l:List (List UInt8)} {b:CD},BI b->BI (b.D9 l).2
 | [],b,h=>h
 | [x],b,h=>h
 | x::y::r,b,h=>by
   simp only[CD.D9];split
   . exact BI.Zb (h.lane x y)
   . exact h.lane x y
theorem BI.Atm{b:CD}(h:BI b)(d:Dc):BI (b.EC d).2:=by
 unfold CD.EC;split
 . exact h
 . split
   . split
     . exact h
     . split
       . exact h
       . split
         . exact h
         . rename_i h1 h2 h3;simp only[Au] at h1 h2;have h4:=h.ns;have h5:=h.sl;refine ⟨h.nb,h.nn,h.mb,λ x i hx=>?_,h.row,by simp;omega,by simp[h.nba],by simp only[Aq,Al,Ax];omega,h.np,λ x hx=>?_,λ s hs=>?_,λ p hp=>?_⟩;simp only[NK] at hx;split at hx
           . cases hx;exact ⟨_,rfl,by simp⟩
           . obtain ⟨n,h6,h7⟩:=h.ms x i hx;exact ⟨n,h6,by simp;omega⟩
           . rcases Av.1 hx with hx | hx
             . exact h.bas x hx
             . simp only[Aw] at hx;subst hx;omega
           . rcases Av.1 hs with hs | hs
             . exact h.sps s hs
             . simp only[Aw] at hs;subst hs;simp only;omega
           . obtain ⟨⟨n,h6,h7⟩,h8⟩:=h.pls p hp;exact ⟨⟨n,h6,by simp;omega⟩,h8⟩
   . exact h
theorem BI.Aji{b:CD}(h:BI b)(d:Dc):BI (b.DF d).2:=by
 unfold CD.DF;split
 . exact h
 . rename_i i hi;split
   . exact h
   split
   . exact h
   split
   . exact h
   split
   . exact h
   split
   . exact h
   rename_i h1 h2 h3 h4 h5;obtain ⟨n,rfl,hn⟩:=h.ms _ _ hi;simp only[Au,Ab] at h2 h3;have hs:=h.sps (b.sp.getD n Co) (CB b.sp n Co hn);refine ⟨h.nb,h.nn,h.mb,h.ms,h.row,h.ns,h.nba,h.sl,?_,h.bas,h.sps,λ p hp=>?_⟩
   . have:=h.np;simp;omega
   . rcases Av.1 hp with hp | hp
     . exact h.pls p hp
     . simp only[Aw] at hp;subst hp;exact ⟨⟨n,rfl,hn⟩,by omega,by omega⟩
theorem BI.config{b:CD}(h:BI b)(d:Dc):BI (b.DU d).2:=by
 unfold CD.DU
 repeat' split
 all_goals first | exact h | skip
 exact ⟨h.nb,h.nn,h.mb,h.ms,h.row,h.ns,h.nba,h.sl,h.np,h.bas,h.sps,h.pls⟩
theorem BI.add{b:CD}(h:BI b)(d:Dc):BI (b.Et d).2:=by
 unfold CD.Et
 repeat' split
 . exact h
 . exact h.block d
 . exact h.Zb
 . exact h.Aji d
 . exact h.config d
 . exact h.Atm d
theorem Mm{d:Dc}(h:Da d=true):(1<=d.word/\d.word<=6)/\(d.B7.length:Int)=(Cx d.word).2/\(Cx d.word).1<=(d.names.length:Int):=by
 simp only[Da,As,Au,BS] at h;obtain ⟨h1,h2,h3,_⟩:=h;exact ⟨h1,h2,by omega⟩
theorem Avg(b:CD)(k:Nat)(d:Dc)(h:BI b)(hd:d.names.length<=10000000/\d.B7.length<=10000000):
   B1 prog 63 [.ptr 1000000 0,d.d] (b.h k) λ h r=>∃k',h=(b.Et d).2.h k'/\r= .p (.int .i64 (b.Et d).1):=by
 have v:=Aio d hd;have v1:=λ h1 h2=>Aoo b k d h1 h2 h.nb (by rw[h.nn];exact h.nb);have v5:=λ h1 h2=>Ajh b k d h1 h2 h.np h.ms;have v6:=Ahp b k d;have v3:=λ h1 h2=>Apo b k d h1 h2 h.ns (by rw[h.nba];exact h.ns) ⟨h.sl.1,by have:=h.sl.2;have:=h.ns;omega⟩;have hs:=@Mm d;unfold Dc.d at v v1 v5 v6 v3 ⊢;refine B0 func63 rfl Amj (by simp[Tryz.f63]) ?_;rw[CD.FR b k];simp only[go_sem];refine Cq v ?_;cases c0:Da d
 . have hv:b.Et d=(20,b):=by unfold CD.Et;rw[if_pos c0]
   simp only[go_sem,c0,hv];first | exact ⟨k,rfl,rfl⟩ | exact ⟨k,rfl⟩
 have hs:=hs c0;cases c1:decide (d.word=1);rotate_left
 . have e1:d.word=1:=Ad c1;rw[e1] at hs;simp[Cx] at hs;simp only[go_sem,c0,c1];refine Ec (v1 (by omega) (by omega)) ?_;rintro h' r ⟨k',rfl,rfl⟩;have hv:b.Et d=b.EP d:=by unfold CD.Et;simp only[c0,c1,BJ,Bd,AP]
   rw[hv];simp only[go_sem,CD.FR (b.EP d).2 k'];first | exact ⟨k',rfl,rfl⟩ | exact ⟨k',rfl⟩
 cases c2:decide (d.word=2);rotate_left
 . have hv:b.Et d=b.D9 d.names:=by unfold CD.Et;simp only[c0,c1,c2,BJ,AL,Bd,AP]
   rw[hv];have e1:d.word=2:=Ad c2;rw[e1] at hs;simp[Cx] at hs;simp only[go_sem,c0,c1,c2];refine B4 (λ q:Nat×CD×Nat=>⟨[(0,.ptr 1000000 0),(3,.ptr 3 0),(4,.p (.int .i64 0)),(5,.p (.int .i64 (q.1:Nat)))],(3,.box [.p (.int .i64 d.word),.p (.int .i64 d.line),.p (.sl (Cw d.names)),.p (.sl (BY d.B7))])::q.2.1.h q.2.2,55⟩)
     (λ q=>1<=q.1/\q.1<=d.names.length/\BI q.2.1/\b.D9 d.names=q.2.1.D9 (d.names.drop (q.1 - 1))) (λ q=>d.names.length - q.1) (1,b,k) ⟨Ai _,by omega,h,by simp⟩ (Wk.forget (by simp[ZF,CD.FR])) ?_
   rintro ⟨i,b',k'⟩ n ⟨H7,hi,hB,he⟩ ih;dsimp only at H7 hi hB he;simp only[go_sem,CD.FR b' k',B3];refine Cv (λ h2=>?_) (λ h2=>?_)
   . have Cr:i<d.names.length:=by simp at h2;omega
     have hw:=Ca i (by omega);have hp:IntKind.i64.wrap ((i:Int) - 1)=((i - 1:Nat):Int):=by rw[IntKind.wrap_i64];omega
     have g1:=Dz d.names (i - 1) (by omega);have g2:=Dz d.names i Cr;have r1:(0:Int)<=((i - 1:Nat):Int)/\((i - 1:Nat):Int)<(d.names.length:Int):=by omega
     have r2:(0:Int)<=(i:Int)/\(i:Int)<(d.names.length:Int):=by omega
     have Ol:d.names.drop (i - 1)=d.names.getD (i - 1) []::d.names.getD i []::d.names.drop (i+1):=by
       have a1:d.names.drop (i - 1)=d.names[i - 1]::d.names.drop (i - 1+1):=AW (by omega);have a2:d.names.drop i=d.names[i]::d.names.drop (i+1):=AW Cr;rw[a1,show i - 1+1=i by omega,a2];simp[List.getD,Cr,show i - 1<d.names.length by omega]
     have Bbq:d.names.drop i=d.names.getD i []::d.names.drop (i+1):=by
       rw[AW Cr];simp[List.getD,Cr]
     rw[Ol] at he;simp only[go_sem,CD.FR b' k',B3];refine Di [(3,.box [.p (.int .i64 d.word),.p (.int .i64 d.line),.p (.sl (Cw d.names)),.p (.sl (BY d.B7))])] mixed (p:=[(0,0),(1,0),(2,0),(3,0),(4,0),(5,0),(6,0),(7,0),(8,0),(9,0),(10,0),(11,0),(12,2),(13,0)]) (by kernel_rfl) (by simp[C3,get]) ?_;simp only[go_sem,CD.FR b' k',B3,hp,r1,r2,Ab,g1,g2];refine Ap6 (Aqh b' k' (d.names.getD (i - 1) []) (d.names.getD i []) (by rw[hB.nn];exact hB.mb) (λ i=>by have:=hB.row i;omega)) ?_;rintro h' r ⟨k2,rfl,rfl⟩;have hBl:=hB.lane (d.names.getD (i - 1) []) (d.names.getD i []);generalize hL:b'.Fj (d.names.getD (i - 1) []) (d.names.getD i [])=L at*;obtain ⟨e,b2⟩:=L;simp only at hBl;simp only[CD.D9,hL] at he;cases c3:decide (e=0)
     . have c3':¬e=0:=Ae c3;rw[if_neg c3'] at he;rw[he];simp only[go_sem,CD.FR b2 k2,c3];first | exact ⟨k2,rfl,rfl⟩ | exact ⟨k2,rfl⟩
     . have c3':e=0:=Ad c3;rw[if_pos c3'] at he;simp only[go_sem,CD.FR b2 k2,c3,hw];refine ih (i+1,b2,k2) _ ⟨by omega,Cr,hBl,?_⟩ (by simp;omega) ?_
       . simp only[Nat.add_sub_cancel];rw[Bbq];exact he
       . (refine Wk.forget ?_;simp[ZF,CD.FR];done)
   . have:i=d.names.length:=by simp at h2;omega
     simp only[go_sem,CD.FR b' k'];have IQ:d.names.drop (i - 1)=[d.names.getD (i - 1) []]:=by
       rw[AW (by omega),Bx (by omega)];simp[List.getD,show i - 1<d.names.length by omega]
     rw[IQ] at he;rw[he];first | exact ⟨k',rfl,rfl⟩ | exact ⟨k',rfl⟩
 cases c5:decide (d.word=5);rotate_left
 . have e1:d.word=5:=Ad c5;rw[e1] at hs;simp[Cx] at hs;simp only[go_sem,c0,c1,c2,c5];refine Ec (v5 (by omega) (by omega)) ?_;rintro h' r ⟨k',rfl,rfl⟩;have hv:b.Et d=b.DF d:=by unfold CD.Et;simp only[c0,c1,c2,c5,BJ,AL,Bd,AP]
   rw[hv];simp only[go_sem,CD.FR (b.DF d).2 k'];first | exact ⟨k',rfl,rfl⟩ | exact ⟨k',rfl⟩
 cases c6:decide (d.word=6);rotate_left
 . have e1:d.word=6:=Ad c6;rw[e1] at hs;simp[Cx] at hs;simp only[go_sem,c0,c1,c2,c5,c6];refine Ec (v6 (by omega)) ?_;rintro h' r ⟨k',rfl,rfl⟩;have hv:b.Et d=b.DU d:=by unfold CD.Et;simp only[c0,c1,c2,c5,c6,BJ,AL,Bd,AP]
   rw[hv];simp only[go_sem,CD.FR (b.DU d).2 k'];first | exact ⟨k',rfl,rfl⟩ | exact ⟨k',rfl⟩
 . have n1:¬d.word=1:=Ae c1;have n2:¬d.word=2:=Ae c2;have n5:¬d.word=5:=Ae c5;have n6:¬d.word=6:=Ae c6;have e1:d.word=3∨d.word=4:=by omega
   simp only[Cx,n1,n2,e1,Bd,AP] at hs;simp only[go_sem,c0,c1,c2,c5,c6];refine Ec (v3 (by omega) (by omega)) ?_;rintro h' r ⟨k',rfl,rfl⟩;have hv:b.Et d=b.EC d:=by unfold CD.Et;simp only[c0,c1,c2,c5,c6,BJ,AL,Bd,AP]
   rw[hv];simp only[go_sem,CD.FR (b.EC d).2 k'];first | exact ⟨k',rfl,rfl⟩ | exact ⟨k',rfl⟩
def parseV:List Ln->List Dc->List Dc×Int×Int
 | [],acc=>(acc,0,0)
 | x::r,acc=>if (Jy x.num x.fs).2=0 then parseV r (acc++[(Jy x.num x.fs).1]) else ([],x.num,(Jy x.num x.fs).2)
def OL(r:List Dc×Int×Int):D:= .Dr [.p (.sl (DM r.1)),.p (.int .i64 r.2.1),.p (.int .i64 r.2.2)]
theorem Aeb(l:List Ln)(hl:l.length<=10000000)(hf:∀x∈l,x.fs.length<=10000000):B1 prog 30 [.p (.sl (EO l))] [] λ h r=>h=[]/\r=OL (parseV l []):=by
 refine B0 func30 rfl An7 (by simp[Tryz.f30]) ?_;simp only[go_sem,CM];refine B4 (λ q:Nat×List Dc=>⟨[(10,.p (.sl (EO l))),(11,.p (.int .i64 (l.length:Nat))),(12,.p (.int .i64 (q.1:Nat))),(5,.ref 29 0 q.2.length q.2.length)],[(29,.arr 82 4 (DM q.2))],32⟩)
   (λ q=>q.1<=l.length/\q.2.length<=q.1/\parseV (l.drop q.1) q.2=parseV l []) (λ q=>l.length - q.1) (0,[]) ⟨AD _,by simp,by simp⟩ ((Wk.nil (t:=5) (q:=29) (sz:=4) 82 rfl rfl (by decide)).trans (Wk.forget (by simp[ZF,DM]))) ?_
 rintro ⟨i,acc⟩ n ⟨hi,hn,he⟩ ih;simp only at hi hn he;simp only[go_sem];refine Cv (λ h2=>?_) (λ h2=>?_)
 . have Cr:i<l.length:=by simp at h2;omega
   have hw:=Ca i (by omega);have hb:=hf _ (CB l i Y7 Cr);rw[C8 l i Y7 Cr] at he;simp only[go_sem,Ab,CM,M9 l i Cr];generalize l.getD i Y7=x at*;refine ⟨by omega,Ec (Ak1 x.num x.fs hb) ?_⟩;rintro h' r ⟨rfl,rfl⟩;by_cases hz:(Jy x.num x.fs).2=0
   . simp only[go_sem,Dc.d,hz,hw,CO];refine ⟨⟨Dq _ _ rfl,by omega⟩,?_⟩;refine ih (i+1,acc++[(Jy x.num x.fs).1]) _ ⟨Cr,by simp only[Aq,Al,Ax];omega,by rw[<-he];simp only[parseV,hz,AP]⟩ (by simp only;omega) ?_
     (refine Wk.forget ?_;simp[ZF,FO,CO];done)
   . simp only[go_sem,Dc.d,hz];refine CH mixed (p:=[(0,0),(1,0),(2,0),(3,0),(4,0),(5,0)]) (by kernel_rfl) (by simp[C3,get]) ?_;simp only[go_sem];refine BX ?_;simp only[go_sem];rw[<-he];simp[parseV,hz,OL,DM]
 . simp only[go_sem];have T1:i=l.length:=by simp at h2;omega
   subst T1;refine BX ?_;simp only[go_sem];rw[A2] at he;rw[<-he];simp[parseV,OL,CO,WE]
def F9(x:Dc):List (List UInt8):=(E3 x.word.toNat).word::x.names++x.B7.map Vv
theorem HL(x:Dc):Da x=true↔(1<=x.word/\x.word<=6)/\(x.B7.length:Int)=(Cx x.word).2/\((x.names.length:Int)=(Cx x.word).1∨((Cx x.word).1<(x.names.length:Int)/\x.word=2))/\
   (∀s∈x.names,CY s=true)/\∀n∈x.B7,-9999<=n/\n<=9999:=by
 unfold Da;simp only[As,BS,Au,AB,BA,Bool.or_eq_false_iff,A6,Int.not_lt]
def Qc:List Dc->List Ln->List Ln×Int
 | [],acc=>(acc,0)
 | x::r,acc=>if Da x then Qc r (acc++[⟨x.line,F9 x⟩]) else ([],20)
theorem ZG:∀(d:List Dc) (acc:List Ln),(∀x∈d,Da x=true)->Qc d acc=(acc++d.map λ x=>⟨x.line,F9 x⟩,0)
 | [],acc,_=>by simp[Qc]
 | x::r,acc,h=>by
   simp only[Qc,h x (by simp),AP];rw[ZG r _ (λ y hy=>h y (by simp[hy]))];simp
def Apq(d:List Dc):Prop:=d.length<=2000000/\∀x∈d,x.names.length<=2000000/\x.B7.length<=2000000
theorem Ue(k:Nat):∀(d:List Dc) (acc:List Ln),(∀x∈d,x.names.length<=k/\x.B7.length<=k)->(∀x∈acc,x.fs.length<=1+2*k)->(Qc d acc).1.length<=acc.length+d.length/\∀x∈(Qc d acc).1,x.fs.length<=1+2*k
 | [],acc,_,h=>by simpa [Qc] using h
 | x::r,acc,hd,h=>by
   simp only[Qc];split
   . have hx:=hd x (by simp);have ih:=Ue k r (acc++[⟨x.line,F9 x⟩]) (λ y hy=>hd y (by simp[hy])) (λ y hy=>by
       rcases Av.1 hy with h1 | h1
       . exact h y h1
       . simp only[Aw] at h1;subst h1;simp[F9];omega)
     simp only[Aq,Al,Ax] at ih ⊢;exact ⟨by omega,ih.2⟩
   . simp
theorem Y1:∀(i:Nat) (l:List Dc) (x:Dc),x∈Ha i l->∃y∈l,x.names=y.names/\x.B7=y.B7
 | _,[],x,h=>by simp[Ha] at h
 | i,y::r,x,h=>by
   simp only[Ha,AG] at h;rcases h with rfl | h
   . exact ⟨y,by simp,rfl,rfl⟩
   . obtain ⟨z,hz,h1⟩:=Y1 (i+1) r x h;exact ⟨z,by simp[hz],h1⟩
theorem Z3(n:Nt)(hn:validN n):Apq (DT n):=by
 obtain ⟨⟨R7,Ab2,N6,KS⟩,hs6,hnm,hr8,hcf,Iq,Yi,hdp⟩:=hn;have T0:(IT n n.blocks.length).length<=n.blocks.length*4:=by
   have:=Is (Zc n) 4 (List.range n.blocks.length) (λ i hi=>by
     have:=(KS i (List.mem_range.1 hi)).2.1;simp only[Zc,Bb];omega)
   simpa [IT] using this
 have hl4:(K7 n n.B5.length).length<=n.B5.length*6:=by
   have:=Is (λ r=>Sv n r n.spurs.length) 6 (n.B5.take n.B5.length) (λ r _=>by
     simp only[Sv,Bb];exact Br (List.length_filter_le _ _) (by simp;omega))
   simpa [K7] using this
 have E0:∀x∈Gj n,x.names.length<=3/\x.B7.length<=4:=by
   intro x hx;simp only[Gj,Av,Aw] at hx;rcases hx with (((hx | hx) | hx) | hx) | rfl
   . obtain ⟨b,_,rfl⟩:=AT.1 hx;simp[SK]
   . obtain ⟨i,_,hx⟩:=BU.1 hx;obtain ⟨y,_,rfl⟩:=AT.1 hx;simp[Ra]
   . obtain ⟨b,_,rfl⟩:=AT.1 hx;simp[Pr]
   . obtain ⟨r,_,hx⟩:=BU.1 hx;obtain ⟨y,_,rfl⟩:=AT.1 hx;simp[Sw]
   . simp
 refine ⟨?_,λ x hx=>?_⟩
 . have:(Gj n).length<=2000000:=by
     simp only[Gj,Aq,K8,Ot,Bb,Al,Ax];omega
   simpa [DT,GL] using this
 . obtain ⟨y,hy,h1,h2⟩:=Y1 0 _ x hx;have:=E0 y hy;rw[h1,h2];omega
theorem Aa9(s:List UInt8):B1 prog 74 [.p (.str s)] [] λ h r=>h=[]/\r= .Dr [.p (.int .i64 (Ka s).1),.p (.bool (Ka s).2)]:=by
 refine B0 func74 rfl Amb (by simp[Tryz.f74]) ?_;cases s with
 | nil=>
   simp only[go_sem];refine Cm ?_;simp only[go_sem];try simp[Ka,Mh,numOf]
 | cons c r=>
 by_cases hc:(c.toNat:Int)=45
 . have Ol:List.drop 1 (List.take ((r.length+1:Nat):Int).toNat (c::r))=r:=by
     rw[Ab,show r.length+1=(c::r).length from rfl,Ar];rfl
   have hk:Ka (c::r)=numOf true r:=by
     have:c=45:=UInt8.toNat_inj.1 (by simp;omega);subst this;simp[Ka,Mh]
   rw[hk];simp only[go_sem,hc,AX];refine ⟨by omega,by omega,?_⟩;simp only[go_sem,Ol];cases r with
   | nil=>
     simp only[go_sem];refine Cm ?_;simp only[go_sem];try simp[numOf]
   | cons b l=>
     by_cases hL:(4:Int)<((l.length+1:Nat):Int)
     . simp only[go_sem,hL];refine Cm ?_;simp only[go_sem];have:4<l.length+1:=by omega
       try simp[numOf,this]
     . have hL':¬4<l.length+1:=by omega
       have hlen:(b::l).length<=4:=by simp only[Al];omega
       have bad:∀c:Int,(∃i,i<(b::l).length/\(((b::l).getD i 0).toNat:Int)=c)->Oa c=false->Oq (b::l)=false:=by
         rintro c ⟨i,hi,hc⟩ hf;rw[Bool.eq_false_iff];intro ht;have:=AB.1 ht ((b::l).getD i 0) (by simp only[List.getD,Az hi,A4];exact AM hi);simp only[hc,hf] at this;cases this
       by_cases Vs:(b.toNat:Int)=48
       . have JT:numOf true (b::l)=(0,false):=by simp only[numOf,Vs,true_or,and_self,or_true,AP]
         by_cases h1:(1:Int)<((l.length+1:Nat):Int);all_goals
           simp only[go_sem,hL,Ol,AX,Vs,h1];refine ⟨by omega,Cm ?_⟩;simp only[go_sem,JT]
       . have JT:numOf true (b::l)=if Oq (b::l) then (if true then 0 - D3 (b::l) else D3 (b::l),true) else (0,false):=by
           simp only[numOf,hL',Vs,false_and,or_self,Bd]
         . have PW:=JT;simp only[go_sem,hL,Ol,AX,Vs];refine ⟨by omega,?_⟩;(try simp only[go_sem]);refine B4 (λ i=>⟨[(0,.p (.str (b::l))),(6,.p (.int .i64 (i:Nat))),(5,.p (.int .i64 (D3 ((b::l).take i)))),(4,.p (.bool true))],[],65⟩) (λ i=>i<=l.length+1/\0<=D3 ((b::l).take i)/\D3 ((b::l).take i)<10 ^ i/\∀j,j<i->Oa ((b::l).getD j 0).toNat=true) (λ i=>l.length+1 - i) 0 ⟨AD _,by simp[D3],by simp[D3],by simp⟩
             (Wk.forget (by first | (simp[Le,QF,C3,get,DH,Ek,EV,D.ids,D3];done) | simp[Le,QF,C3,get,DH,Ek,EV,D.ids,D3,hng])) ?_
           rintro i n ⟨hi,Pl,hv1,he⟩ ih;simp only[go_sem];refine Cv (λ h2=>?_) (λ h2=>?_)
           . have Cr:i<(b::l).length:=by simp at h2 ⊢;omega
             simp only[go_sem];have hw:=Ca i (by omega);have R3:=QM (b::l) i Cr;generalize R5:(((b::l).getD i 0).toNat:Int)=c at R3;have hle:i+1<=l.length+1:=by simp only[Al] at Cr;omega
             have hp:(10:Int) ^ i<=10000:=p10 i (by omega);have JU:(10:Int) ^ (i+1)=10*10 ^ i:=by rw[Int.pow_succ];omega
             have H7:(i:Int)<((l.length+1:Nat):Int):=by simp only[Al] at Cr;omega
             have C0:(0:Int)<=(i:Int):=by omega
             by_cases N8:c<48
             . simp only[go_sem,Ab,H7,C0,R5,N8];refine Cm ?_;simp only[go_sem,PW,bad c ⟨i,Cr,R5⟩ (by simp[Oa];omega)];try simp
             . by_cases IQ:57<c
               . simp only[go_sem,Ab,H7,C0,R5,N8,IQ];refine Cm ?_;simp only[go_sem,PW,bad c ⟨i,Cr,R5⟩ (by simp[Oa];omega)];try simp
               . have w1:IntKind.i64.wrap (10*D3 ((b::l).take i))=10*D3 ((b::l).take i):=by rw[B2]<;>omega
                 have w2:IntKind.u8.wrap (c - 48)=c - 48:=by rw[IntKind.wrap_u8];omega
                 have w3:IntKind.i64.wrap (c - 48)=c - 48:=by rw[B2]<;>omega
                 have w4:IntKind.i64.wrap (10*D3 ((b::l).take i)+(c - 48))=D3 ((b::l).take (i+1)):=by rw[R3,B2]<;>omega
                 simp only[go_sem,Ab,H7,C0,R5,N8,IQ,w1,w2,w3,w4,hw];refine ih (i+1) _ ⟨hle,by omega,by omega,λ j hj=>?_⟩ (by omega) (Wk.forget (by simp[Le,QF,C3,get,DH,Ek,EV,D.ids]));rcases AF.1 hj with hj | rfl
                 . exact he j hj
                 . rw[R5];simp[Oa];omega
           . simp only[go_sem];have D7:i=(b::l).length:=by simp at h2 ⊢;omega
             have Dw:Oq (b::l)=true:=by
               refine AB.2 λ x hx=>?_;obtain ⟨j,hj,rfl⟩:=AA.1 hx;have:=he j (by omega)
               simpa only[List.getD,List.getElem?_eq_getElem hj,Option.getD_some] using this
             have hp:(10:Int) ^ i<=10000:=p10 i (by omega);rw[D7,Ar] at Pl hv1;rw[D7,Ar];have w5:IntKind.i64.wrap (0 - D3 (b::l))=0 - D3 (b::l):=by rw[<-D7] at hv1;rw[B2]<;>omega
             (try simp only[go_sem,w5]);refine Cm ?_;simp only[go_sem,JT,Dw];try simp
 . have hk:Ka (c::r)=numOf false (c::r):=by
     have:Mh (c::r) [45]=false:=by
       simp[Mh];intro h;subst h;exact hc rfl
     simp[Ka,this]
   rw[hk];simp only[go_sem,hc,AX];refine ⟨by omega,?_⟩;try simp only[go_sem,hc,AX]
   revert hc hk
   generalize c=b;generalize r=l;intro hc hk;by_cases hL:(4:Int)<((l.length+1:Nat):Int)
   . simp only[go_sem,hL];refine Cm ?_;simp only[go_sem];have:4<l.length+1:=by omega
     try simp[numOf,this]
   . have hL':¬4<l.length+1:=by omega
     have hlen:(b::l).length<=4:=by simp only[Al];omega
     have bad:∀c:Int,(∃i,i<(b::l).length/\(((b::l).getD i 0).toNat:Int)=c)->Oa c=false->Oq (b::l)=false:=by
       rintro c ⟨i,hi,hc⟩ hf;rw[Bool.eq_false_iff];intro ht;have:=AB.1 ht ((b::l).getD i 0) (by simp only[List.getD,Az hi,A4];exact AM hi);simp only[hc,hf] at this;cases this
     by_cases h1:(1:Int)<((l.length+1:Nat):Int)<;>by_cases Vs:(b.toNat:Int)=48
     . have JT:numOf false (b::l)=(0,false):=by
         have:1<l.length+1:=by omega
         simp only[numOf,Vs,this,and_self,or_true,AP]
       simp only[go_sem,hL,AX,Vs,h1];refine ⟨by omega,Cm ?_⟩;simp only[go_sem,JT]
     all_goals
       have JT:numOf false (b::l)=if Oq (b::l) then (if false then 0 - D3 (b::l) else D3 (b::l),true) else (0,false):=by
         have:¬((b.toNat:Int)=48/\(false=true∨1<l.length+1)):=by
           rintro ⟨h,h2 | h2⟩
           . cases h2
           . first | exact Vs h | omega
         simp only[numOf,hL',this,or_self,Bd]
       . have PW:=JT;simp only[go_sem,hL,AX,Vs,h1];refine ⟨by omega,?_⟩;(try simp only[go_sem]);refine B4 (λ i=>⟨[(0,.p (.str (b::l))),(6,.p (.int .i64 (i:Nat))),(5,.p (.int .i64 (D3 ((b::l).take i)))),(4,.p (.bool false))],[],65⟩) (λ i=>i<=l.length+1/\0<=D3 ((b::l).take i)/\D3 ((b::l).take i)<10 ^ i/\∀j,j<i->Oa ((b::l).getD j 0).toNat=true) (λ i=>l.length+1 - i) 0 ⟨AD _,by simp[D3],by simp[D3],by simp⟩
           (Wk.forget (by first | (simp[Le,QF,C3,get,DH,Ek,EV,D.ids,D3];done) | simp[Le,QF,C3,get,DH,Ek,EV,D.ids,D3,hng])) ?_
         rintro i n ⟨hi,Pl,hv1,he⟩ ih;simp only[go_sem];refine Cv (λ h2=>?_) (λ h2=>?_)
         . have Cr:i<(b::l).length:=by simp at h2 ⊢;omega
           simp only[go_sem];have hw:=Ca i (by omega);have R3:=QM (b::l) i Cr;generalize R5:(((b::l).getD i 0).toNat:Int)=c at R3;have hle:i+1<=l.length+1:=by simp only[Al] at Cr;omega
           have hp:(10:Int) ^ i<=10000:=p10 i (by omega);have JU:(10:Int) ^ (i+1)=10*10 ^ i:=by rw[Int.pow_succ];omega
           have H7:(i:Int)<((l.length+1:Nat):Int):=by simp only[Al] at Cr;omega
           have C0:(0:Int)<=(i:Int):=by omega
           by_cases N8:c<48
           . simp only[go_sem,Ab,H7,C0,R5,N8];refine Cm ?_;simp only[go_sem,PW,bad c ⟨i,Cr,R5⟩ (by simp[Oa];omega)];try simp
           . by_cases IQ:57<c
             . simp only[go_sem,Ab,H7,C0,R5,N8,IQ];refine Cm ?_;simp only[go_sem,PW,bad c ⟨i,Cr,R5⟩ (by simp[Oa];omega)];try simp
             . have w1:IntKind.i64.wrap (10*D3 ((b::l).take i))=10*D3 ((b::l).take i):=by rw[B2]<;>omega
               have w2:IntKind.u8.wrap (c - 48)=c - 48:=by rw[IntKind.wrap_u8];omega
               have w3:IntKind.i64.wrap (c - 48)=c - 48:=by rw[B2]<;>omega
               have w4:IntKind.i64.wrap (10*D3 ((b::l).take i)+(c - 48))=D3 ((b::l).take (i+1)):=by rw[R3,B2]<;>omega
               simp only[go_sem,Ab,H7,C0,R5,N8,IQ,w1,w2,w3,w4,hw];refine ih (i+1) _ ⟨hle,by omega,by omega,λ j hj=>?_⟩ (by omega) (Wk.forget (by simp[Le,QF,C3,get,DH,Ek,EV,D.ids]));rcases AF.1 hj with hj | rfl
               . exact he j hj
               . rw[R5];simp[Oa];omega
         . simp only[go_sem];have D7:i=(b::l).length:=by simp at h2 ⊢;omega
           have Dw:Oq (b::l)=true:=by
             refine AB.2 λ x hx=>?_;obtain ⟨j,hj,rfl⟩:=AA.1 hx;have:=he j (by omega)
             simpa only[List.getD,List.getElem?_eq_getElem hj,Option.getD_some] using this
           have hp:(10:Int) ^ i<=10000:=p10 i (by omega);rw[D7,Ar] at Pl hv1;rw[D7,Ar];have w5:IntKind.i64.wrap (0 - D3 (b::l))=0 - D3 (b::l):=by rw[<-D7] at hv1;rw[B2]<;>omega
           (try simp only[go_sem]);refine Cm ?_;simp only[go_sem,JT,Dw];try simp
end Go.Am
end
